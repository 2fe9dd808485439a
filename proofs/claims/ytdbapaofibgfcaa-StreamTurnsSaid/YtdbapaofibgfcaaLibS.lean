/- slices.SortFunc at structs, in its place: a contract of the abstract walk out of the kit's. -/
import Derived.Test.YtdbapaofibgfcaaAm0
import Derived.Shelf.SlSortCmp.NoneTotal
import Derived.Sort.OwnSorted
set_option linter.unusedVariables false
set_option linter.unusedSimpArgs false
namespace Go.Proofs.Ytdbapaofibgfcaa
open Go.RowKit
open Go.Sort (SWO PermIn SortedIn HoldsK flatK putRowK putRow putCells grow mapBlock onCells size_flatK get_flatK heap_grow_old)

section
variable {T : Type}
def sortF (cmp : T → T → Int) (l : List T) : List T := l.mergeSort (fun x y => !ltOf cmp y x)
def F_sort [DecidableEq T] (cmp : T → T → Int) (n : Nat) (l : List T) : Option (List T) :=
  if l.length ≤ 1000000000 ∧ ∀ x ∈ l, ∀ y ∈ l, ltOf cmp x y = false → ltOf cmp y x = false → x = y then some (sortF cmp l) else none
theorem sortF_perm (cmp : T → T → Int) (l : List T) : (sortF cmp l).Perm l := List.mergeSort_perm _ _
theorem sortF_sorted {cmp : T → T → Int} (hO : SWO (ltOf cmp)) (l : List T) : (sortF cmp l).Pairwise (fun x y => ltOf cmp y x = false) := by
  have h := List.pairwise_mergeSort (le := fun x y => !ltOf cmp y x) (fun a b c h1 h2 => by
    simp only [Bool.not_eq_true'] at h1 h2 ⊢
    exact hO.ntrans _ _ _ h2 h1) (fun a b => by
    cases h1 : ltOf cmp b a with
    | false => rfl
    | true =>
      cases h2 : ltOf cmp a b with
      | false => simp
      | true => have := hO.trans _ _ _ h1 h2; rw [hO.irrefl] at this; cases this) l
  exact h.imp (fun h => by simpa using h)
theorem sort_uniq {cmp : T → T → Int} (hO : SWO (ltOf cmp)) {l l' : List T} (ht : ∀ x ∈ l, ∀ y ∈ l, ltOf cmp x y = false → ltOf cmp y x = false → x = y) (hp : l'.Perm l) (hs : l'.Pairwise (fun x y => ltOf cmp y x = false)) : l' = sortF cmp l :=
  List.Perm.eq_of_pairwise (le := fun x y => ltOf cmp y x = false) (fun a b ha hb h1 h2 => ht a (hp.mem_iff.1 ha) b ((sortF_perm cmp l).mem_iff.1 hb) h2 h1) hs (sortF_sorted hO l) (hp.trans (sortF_perm cmp l).symm)
end

theorem grow_of_below {w w' : World} (h : Below w.heap.size w w') (hd : w.drawn ≤ w'.drawn) : ∃ q os, w' = grow (w.drewN q) os := by
  refine ⟨w'.drawn - w.drawn, w'.heap.extract w.heap.size w'.heap.size, ?_⟩
  obtain ⟨heap', tape', drawn', os', output'⟩ := w'
  have e1 : os' = w.os := h.os
  have e2 : tape' = w.tape := h.tape
  have e3 : output' = w.output := h.output
  have hs : w.heap.size ≤ heap'.size := h.size
  have hb : ∀ k, k < w.heap.size → heap'[k]? = w.heap[k]? := h.block
  have hd : w.drawn ≤ drawn' := hd
  subst e1 e2 e3
  have eh : heap' = w.heap ++ heap'.extract w.heap.size heap'.size := by
    apply Array.ext_getElem?
    intro k
    by_cases hk : k < w.heap.size
    · rw [Array.getElem?_append_left hk]; exact hb k hk
    · rw [Array.getElem?_append_right (by omega), Array.getElem?_extract]
      by_cases hk2 : k < heap'.size
      · rw [if_pos (by omega)]; congr 1; omega
      · rw [if_neg (by omega), Array.getElem?_eq_none (by omega)]
  have ed : drawn' = w.drawn + (drawn' - w.drawn) := by omega
  simp only [grow, World.drewN]
  congr 1

theorem take_put (F cur : Array Value) (h : F.size ≤ cur.size) : (putCells id 0 F cur).toList.take F.size = F.toList := by
  apply List.ext_getElem?
  intro j
  by_cases hj : j < F.size
  · rw [List.getElem?_take_of_lt hj, Array.getElem?_toList]
    simp [putCells, hj, show j < cur.size by omega]
  · rw [List.getElem?_take_eq_none (by omega), List.getElem?_eq_none (by simp; omega)]

/-- An element of the row: its cells, and what they stand for. -/
abbrev SEl (w : World) (S : Nat → Prop) (sz : Nat) {T : Type} (encT : T → AV) : Type := { p : List Value × T // p.1.length = sz ∧ (∀ v ∈ p.1, v.oneCell' = true) ∧ Rep w S G0 (encT p.2) (.agg p.1.toArray) }
theorem flat_get {α : Type} [Inhabited α] (enc : α → List Value) (sz : Nat) (hk : ∀ x, (enc x).length = sz) (d : Array α) (k j : Nat) (hkd : k < d.size) (hj : j < sz) : (flatK enc sz d).toList.getD (k * sz + j) undef = (enc d[k]!).getD j undef := by
  have hlt : k * sz + j < d.size * sz := by
    have : (k + 1) * sz ≤ d.size * sz := Nat.mul_le_mul_right _ hkd
    rw [Nat.succ_mul] at this
    omega
  have h1 := get_flatK enc sz d (k * sz + j) hlt
  have e1 : (k * sz + j) / sz = k := by rw [Nat.mul_comm, Nat.mul_add_div (by omega), Nat.div_eq_of_lt hj, Nat.add_zero]
  have e2 : (k * sz + j) % sz = j := by rw [Nat.mul_comm, Nat.mul_add_mod, Nat.mod_eq_of_lt hj]
  rw [e1, e2] at h1
  have h2 : k * sz + j < (flatK enc sz d).size := by rw [size_flatK]; exact hlt
  rw [List.getD_eq_getElem?_getD, Array.getElem?_toList, Array.getElem?_eq_getElem h2, Option.getD_some, ← getElem!_pos (flatK enc sz d) _ h2, h1]
  have h3 : j < (enc d[k]!).length := by rw [hk]; exact hj
  rw [getElem!_pos (enc d[k]!) j h3, List.getD_eq_getElem?_getD, List.getElem?_eq_getElem h3, Option.getD_some]

theorem sort_gen {E Ed : Env} {f g ty sz : Nat} {T : Type} [DecidableEq T] {encT : T → AV} {cmp : T → T → Int} {n : Nat} {l l' : List T} (hP : Ed.P = E.P) (hEd : Ed.dr = true) (he : Enters E f) (heg : Enters E g) (hsz : 0 < sz)
    (hagg : ∀ x, ∃ cs, encT x = .agg cs ∧ cs.length = sz)
    (hsort : ∀ (α : Type) [Inhabited α] (enc : α → List Value) (hk : ∀ x, (enc x).length = sz) (h1 : ∀ x, ∀ v ∈ enc x, v.oneCell' = true) (cf : α → α → Int) (hO : SWO (ltOf cf)) (blk off cap : Nat) (d : Array α) (w : World)
      (hcmp : CmpLays E.P g #[] enc sz cf blk off d.size w) (hH : HoldsK enc sz w blk off d) (hblk : blk < w.heap.size) (hsz : d.size < 4611686018427387904),
      Calls E.P f #[.slice (some ⟨blk, off, none⟩) d.size cap, .func (.func g) #[] #[]] w fun e w' => e = .returned (.tuple #[]) ∧ ∃ d' n os, PermIn 0 d.size d d' ∧ SortedIn (ltOf cf) 0 d.size d' ∧ w' = sortWorldK enc sz w blk off n d' os)
    (hnone : ∀ (p : Option Addr) (cap : Nat) (fv : Value) (w : World), Calls E.P f #[.slice p 0 cap, fv] w fun e w' => e = .returned (.tuple #[]) ∧ w' = w)
    (hc : ∀ x y, Con Ed true g [encT x, encT y] (.int .i64 (cmp x y))) (hO : SWO (ltOf cmp)) (hF : F_sort cmp n l = some l') :
    ConC true E f [.row 0, .fn g []] ty sz (l.map encT) ty sz (l'.map encT) (.tup []) := by
  unfold F_sort at hF
  split at hF
  rotate_left
  · cases hF
  rename_i hcond
  obtain ⟨hll, hties⟩ := hcond
  injection hF with hF
  refine ⟨he, rfl, fun S w0 w vs v us hbw hown hlen hre hone hnS hvs hargs => ?_⟩
  -- the arguments
  have ha := hargs (fun i => if i = 0 then some (some (v.ownBlock, v)) else none) rfl
  have h0 := (ha 0 (by simp)).row_inv (g := v.ownBlock) (s := v) rfl
  obtain ⟨cs, h1, hcs, _⟩ := (ha 1 (by simp)).fn_inv
  have hcs0 : cs = #[] := Array.eq_empty_of_size_eq_zero hcs
  subst hcs0
  have evs : vs = #[v, .func (.func g) #[] #[]] := by
    have := getD2 hvs
    rw [h0, h1] at this
    exact this
  rw [evs]
  clear ha h0 h1 evs
  have hlm : (l.map encT).length = l.length := List.length_map _
  have hl'len : l'.length = l.length := by rw [← hF]; exact (sortF_perm cmp l).length_eq
  -- no element
  have empty : l = [] → Calls E.P f #[v, .func (.func g) #[] #[]] w fun e w' => ∃ u v' us', e = .returned u ∧ w.grownBy w' v.ownBlock ∧ w'.ownsRow w0.heap.size ty sz v' (l'.map encT).length us' ∧ (true = true → v' = v) ∧ (∀ b, v'.ownBlock = some b → v.ownBlock = some b ∨ w.heap.size ≤ b) ∧ (∀ k (hk : k < (l'.map encT).length), ((l'.map encT)[k]).cells.length = sz) ∧
      (∀ k (hk : k < (l'.map encT).length) j (hj : j < ((l'.map encT)[k]).cells.length), Rep w' (fun b => (S b ∨ w.heap.size ≤ b) ∧ v'.ownBlock ≠ some b) G0 (((l'.map encT)[k]).cells[j]) (us'.getD (k * sz + j) undef)) ∧ (∀ u ∈ us', u.oneCell' = true) ∧
      ∀ γ' : Gam, γ' 0 = some (some (v'.ownBlock, v')) → Rep w' (fun b => (S b ∨ w.heap.size ≤ b) ∧ v'.ownBlock ≠ some b) γ' (.tup []) u := fun h0 => by
    have hl0 : l' = [] := by rw [← hF, h0]; simp [sortF]
    subst hl0
    subst h0
    have hv : ∃ p cap, v = .slice p 0 cap := by
      rcases hown.2 with ⟨hv, _⟩ | ⟨b, cap, cur, hv, _⟩
      · exact ⟨none, 0, hv⟩
      · exact ⟨_, cap, hv⟩
    obtain ⟨p, cap, hv⟩ := hv
    have hcall := hnone p cap (.func (.func g) #[] #[]) w
    rw [← hv] at hcall
    refine hcall.mono ?_
    rintro e w' ⟨rfl, rfl⟩
    exact ⟨_, v, us, rfl, World.grownBy.refl _ _, hown, fun _ => rfl, fun b hb => Or.inl hb, fun k hk => absurd hk (by simp), fun k hk => absurd hk (by simp), hone, fun γ' _ => .tup #[] rfl (fun i hi => absurd hi (by simp))⟩
  by_cases hl0 : l = []
  · exact empty hl0
  have hlp : 0 < l.length := List.length_pos_iff.2 hl0
  rcases hown.2 with ⟨_, h0⟩ | ⟨blk, cap, cur, hv, hbb, hh, hn, hm, hs, ht⟩
  · omega
  have hblk : blk < w.heap.size := (Array.getElem?_eq_some_iff.1 hh).1
  have hob : v.ownBlock = some blk := by rw [hv]; rfl
  have husl : us.length = l.length * sz := by rw [hown.1, hlm]
  have hin : ∀ k j, k < l.length → j < sz → k * sz + j < l.length * sz := fun k j hk hj => by
    have : (k + 1) * sz ≤ l.length * sz := Nat.mul_le_mul_right _ hk
    rw [Nat.succ_mul] at this
    omega
  -- the elements
  have hel : ∀ i (hi : i < l.length), ((us.drop (i * sz)).take sz).length = sz ∧ (∀ v ∈ (us.drop (i * sz)).take sz, v.oneCell' = true) ∧ Rep w S G0 (encT l[i]) (.agg ((us.drop (i * sz)).take sz).toArray) := fun i hi => by
    have hlen1 : ((us.drop (i * sz)).take sz).length = sz := by
      rw [List.length_take, List.length_drop]
      have : (i + 1) * sz ≤ l.length * sz := Nat.mul_le_mul_right _ hi
      rw [Nat.succ_mul] at this
      omega
    have hone1 : ∀ v ∈ (us.drop (i * sz)).take sz, v.oneCell' = true := fun v hv => hone v (List.mem_of_mem_drop (List.mem_of_mem_take hv))
    refine ⟨hlen1, hone1, ?_⟩
    obtain ⟨cs, hcs, hcl⟩ := hagg l[i]
    rw [hcs]
    have hget : ∀ j, j < sz → ((us.drop (i * sz)).take sz).toArray.getD j undef = us.getD (i * sz + j) undef := fun j hj => by
      rw [Array.getD_eq_getD_getElem?, List.getElem?_toArray, List.getElem?_take_of_lt hj, List.getElem?_drop, List.getD_eq_getElem?_getD]
    refine .agg _ (by simpa [hcl] using hlen1) (fun j hj => ?_) (fun j hj => ?_)
    · rw [hget j (by omega)]
      have hil : i < (l.map encT).length := by rw [hlm]; exact hi
      have e : (l.map encT)[i] = .agg cs := by rw [List.getElem_map]; exact hcs
      have := hre i hil j (by rw [e]; exact hj)
      simp only [e, AV.cells] at this
      exact this
    · have hj' : j < ((us.drop (i * sz)).take sz).length := by simpa using hj
      rw [Array.getD_eq_getD_getElem?, List.getElem?_toArray, List.getElem?_eq_getElem hj', Option.getD_some]
      exact hone1 _ (List.getElem_mem hj')
  let A := SEl w S sz encT
  let enc : A → List Value := fun p => p.1.1
  let d : Array A := (List.ofFn fun i : Fin l.length => (⟨((us.drop (i.1 * sz)).take sz, l[i.1]), hel i.1 i.2⟩ : A)).toArray
  haveI : Inhabited A := ⟨⟨((us.drop (0 * sz)).take sz, l[0]), hel 0 hlp⟩⟩
  have hds : d.size = l.length := by simp [d]
  have hdi : ∀ i (hi : i < l.length), d[i]! = ⟨((us.drop (i * sz)).take sz, l[i]), hel i hi⟩ := fun i hi => by
    rw [getElem!_pos d i (by rw [hds]; exact hi)]
    simp [d]
  have hk : ∀ x : A, (enc x).length = sz := fun x => x.2.1
  have hcmp : CmpLays E.P g #[] enc sz (fun x y : A => cmp x.1.2 y.1.2) blk 0 d.size w := fun m os dk hdk x y => by
    have hcon := (hc x.1.2 y.1.2).2 S (sortWorldK enc sz w blk 0 m dk os) #[.agg (enc x).toArray, .agg (enc y).toArray] ⟨rfl, fun i hi => ?_⟩
    · rw [hP] at hcon
      refine hcon.mono ?_
      rintro e w' ⟨u, rfl, ⟨hb, hdr⟩, hu⟩
      exact ⟨by rw [hu.int_inv], grow_of_below hb (hdr hEd)⟩
    · have key : ∀ z : A, Rep (sortWorldK enc sz w blk 0 m dk os) S G0 (encT z.1.2) (.agg (enc z).toArray) := fun z => by
        refine z.2.2.2.mono ?_ (fun b hS hb => ⟨?_, hS⟩)
        · simp [sortWorldK, grow, putRowK, putRow, mapBlock, Go.Sort.ahead]
        · have hne : blk ≠ b := fun e => hnS blk hob (e ▸ hS)
          unfold sortWorldK
          rw [heap_grow_old _ _ (by simpa [putRowK, Go.Sort.ahead] using hb)]
          simp [putRowK, putRow, mapBlock, Go.Sort.ahead, Array.getElem?_modify, hne]
      have hi' : i < 2 := hi
      rcases i with _ | _ | i
      · exact key x
      · exact key y
      · omega
  have hH : HoldsK enc sz w blk 0 d := fun j hj => by
    have hj' : j < l.length * sz := by rw [size_flatK, hds] at hj; exact hj
    have hq : j / sz < l.length := Nat.div_lt_of_lt_mul (by rwa [Nat.mul_comm] at hj')
    have hm := Nat.mod_lt j hsz
    have e := flat_get enc sz hk d (j / sz) (j % sz) (by rw [hds]; exact hq) hm
    have ej : j / sz * sz + j % sz = j := by rw [Nat.mul_comm]; exact Nat.div_add_mod j sz
    rw [ej] at e
    have ef : (flatK enc sz d)[j]! = us.getD j undef := by
      rw [getElem!_pos (flatK enc sz d) j hj]
      have h1 : (flatK enc sz d).toList.getD j undef = (flatK enc sz d)[j] := by
        rw [List.getD_eq_getElem?_getD, Array.getElem?_toList, Array.getElem?_eq_getElem hj]; rfl
      rw [← h1, e, hdi _ hq]
      show ((us.drop (j / sz * sz)).take sz).getD (j % sz) undef = us.getD j undef
      rw [List.getD_eq_getElem?_getD, List.getElem?_take_of_lt hm, List.getElem?_drop, ej, ← List.getD_eq_getElem?_getD]
    rw [ef, Nat.zero_add]
    refine ⟨row_cells hown hob j (by rw [hlm]; exact hj'), ?_⟩
    simp [World.frozen?, hh]
  have hOA : SWO (ltOf fun x y : A => cmp x.1.2 y.1.2) := ⟨fun x => hO.irrefl _, fun x y z => hO.trans _ _ _, fun x y z => hO.ntrans _ _ _⟩
  have hcall := hsort A enc hk (fun x => x.2.2.1) (fun x y => cmp x.1.2 y.1.2) hOA blk 0 cap d w hcmp hH hblk (by rw [hds]; omega)
  have ev : v = .slice (some ⟨blk, 0, none⟩) d.size cap := by rw [hv, hlm, hds]
  rw [← ev] at hcall
  refine hcall.mono ?_
  rintro e w' ⟨rfl, d', m, os, ⟨hps, _, hpp⟩, hso, hw'⟩
  have hd's : d'.size = l.length := hps.trans hds
  -- what lies there now
  have e1 : d'.extract 0 d.size = d' := by rw [← hps]; exact Array.extract_size
  rw [e1, Array.extract_size] at hpp
  have hdl : d.toList.map (fun p => p.1.2) = l := by
    simp only [d, List.map_ofFn]
    apply List.ext_getElem
    · simp
    · intro i h1 h2; simp
  have hperm : (d'.toList.map (fun p => p.1.2)).Perm l := by
    have := hpp.map (fun p : A => p.1.2)
    rwa [hdl] at this
  have hsorted : (d'.toList.map (fun p => p.1.2)).Pairwise (fun x y => ltOf cmp y x = false) := by
    rw [List.pairwise_iff_getElem]
    intro i j hi hj hij
    have hi' : i < d'.size := by simpa using hi
    have hj' : j < d'.size := by simpa using hj
    have := hso i j (Nat.zero_le _) hij (by rw [hds, ← hd's]; exact hj')
    rw [getElem!_pos d' i hi', getElem!_pos d' j hj'] at this
    simpa [ltOf] using this
  have hfin : d'.toList.map (fun p => p.1.2) = l' := by rw [← hF]; exact sort_uniq hO hties hperm hsorted
  have hl'k : ∀ k (hk' : k < l'.length), ∃ h : k < d'.size, l'[k] = d'[k].1.2 := fun k hk' => by
    have h : k < d'.size := by omega
    refine ⟨h, ?_⟩
    have : l'[k] = (d'.toList.map (fun p => p.1.2))[k]'(by simpa using h) := by simp only [hfin]
    rw [this]
    simp
  have hgb : w.grownBy w' v.ownBlock := by
    rw [hob, hw']
    refine ⟨rfl, rfl, rfl, by simp [sortWorldK, grow, putRowK, putRow, mapBlock, Go.Sort.ahead], fun k hk hne => ?_⟩
    unfold sortWorldK
    rw [heap_grow_old _ _ (by simpa [putRowK, Go.Sort.ahead] using hk)]
    have : blk ≠ k := fun e => hne (by rw [e])
    simp [putRowK, putRow, mapBlock, Go.Sort.ahead, Array.getElem?_modify, this]
  have hFs : (flatK enc sz d').size = l.length * sz := by rw [size_flatK, hd's]
  have hcap : l.length * sz ≤ cur.size := by
    rw [hs]; rw [hlm] at hn; exact Nat.mul_le_mul_right _ hn
  have hheap : w'.heap[blk]? = some (.cells (putCells id 0 (flatK enc sz d') cur) ty (0, 0)) := by
    rw [hw']
    unfold sortWorldK
    rw [heap_grow_old _ _ (by simpa [putRowK, Go.Sort.ahead] using hblk)]
    simp [putRowK, putRow, mapBlock, Go.Sort.ahead, Array.getElem?_modify, hh, onCells]
  have hrow : ∀ k j, k < l.length → j < sz → (flatK enc sz d').toList.getD (k * sz + j) undef = (enc d'[k]!).getD j undef := fun k j hk' hj => flat_get enc sz hk d' k j (by rw [hd's]; exact hk') hj
  refine ⟨_, v, (flatK enc sz d').toList, rfl, hgb, ⟨by rw [Array.length_toList, hFs, List.length_map, hl'len], Or.inr ⟨blk, cap, _, ?_, hbb, hheap, ?_, hm, ?_, ?_⟩⟩, fun _ => rfl, fun b hb => Or.inl hb, fun k hk' => ?_, fun k hk' j hj => ?_, fun u hu => ?_, fun γ' _ => .tup #[] rfl (fun i hi => absurd hi (by simp))⟩
  · rw [List.length_map, hl'len, hv, hlm]
  · rw [List.length_map, hl'len]; rw [hlm] at hn; exact hn
  · simp [putCells, hs]
  · rw [List.length_map, hl'len, ← hFs]
    exact take_put _ _ (by rw [hFs]; exact hcap)
  · rw [List.getElem_map]
    obtain ⟨cs, hcs, hcl⟩ := hagg (l'[k]'(by simpa using hk'))
    rw [hcs]; exact hcl
  · have hk2 : k < l'.length := by simpa using hk'
    obtain ⟨hkd, hlk⟩ := hl'k k hk2
    have e : (l'.map encT)[k] = encT d'[k].1.2 := by rw [List.getElem_map, hlk]
    simp only [e] at hj ⊢
    obtain ⟨cs, hcs, hcl⟩ := hagg d'[k].1.2
    have hj2 : j < sz := by rw [hcs] at hj; simp only [AV.cells] at hj; omega
    rw [hrow k j (by omega) hj2, getElem!_pos d' k hkd]
    have hrep := d'[k].2.2.2
    rw [hcs] at hrep
    obtain ⟨vs', hvs', hvl, hvr, _⟩ := hrep.agg_inv
    injection hvs' with hvs'
    subst hvs'
    have := hvr j (by omega)
    simp only [hcs, AV.cells]
    rw [Array.getD_eq_getD_getElem?, List.getElem?_toArray, ← List.getD_eq_getElem?_getD] at this
    refine this.mono hgb.size (fun b hS hb => ⟨hgb.block b hb (fun e => hnS b e.symm hS), Or.inl hS, fun e => hnS b e hS⟩)
  · obtain ⟨q, hq, rfl⟩ := List.mem_iff_getElem.1 hu
    have hq' : q < l.length * sz := by rw [Array.length_toList, hFs] at hq; exact hq
    have hqd : q / sz < l.length := Nat.div_lt_of_lt_mul (by rwa [Nat.mul_comm] at hq')
    have hm := Nat.mod_lt q hsz
    have := hrow (q / sz) (q % sz) hqd hm
    have ej : q / sz * sz + q % sz = q := by rw [Nat.mul_comm]; exact Nat.div_add_mod q sz
    rw [ej, List.getD_eq_getElem?_getD, List.getElem?_eq_getElem hq, Option.getD_some] at this
    rw [this]
    have hl2 := hk d'[q / sz]!
    rw [List.getD_eq_getElem?_getD, List.getElem?_eq_getElem (by omega), Option.getD_some]
    exact (d'[q / sz]!).2.2.1 _ (List.getElem_mem _)
end Go.Proofs.Ytdbapaofibgfcaa
