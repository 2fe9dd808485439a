/- slices.SortFunc at structs, in its place: a contract of the abstract walk out of the kit's. Clones of slices, for elements of any kind. Contracts of the library, out of the shelf of the kit, at this program (written by the kit's lay-shelf and lay-plain). What some functions compute, over plain values. Printed by a program of mine (gen_fun.lean). Plain laws of the forms of terms (G0). Layer 5: the comparisons, plainly; sorting by them. Plain functions: what layers 34 and 35 (program and reference) compute, on plain data. No program in sight. Plain functions and plain laws of layer 35: what the program and the reference compute, and that they agree. Contracts by the abstract walk: layers 34 and 35. The walks of layers 34 and 35, first part: what each function returns, whatever the memory. The walks of layers 34 and 35, second part: equality, membership, checks, clones. Go's library, walked: what the slices functions that the layers use hand back. Printed by gen_lib.py. The walks of layers 34 and 35, fifth part: closures, the latest time, own copies. The walks of layers 34 and 35, sixth part: own copies. The walks of layers 34 and 35, third part: the checks. -/
import Derived.Test.YtimkhfaddnanhaaGreatK07
import Derived.Shelf.SlSortCmp.NoneTotal
import Derived.Sort.OwnSorted
import Derived.Test.YtimkhfaddnanhaaGreatProg
import Derived.Test.YtimkhfaddnanhaaGreatK01
set_option linter.unusedVariables false
set_option linter.unusedSimpArgs false
set_option maxRecDepth 100000
set_option maxHeartbeats 8000000
namespace Go.Proofs.YtimkhfaddnanhaaGreat
open Go.RowKit
open Go.Sort (SWO PermIn SortedIn HoldsK flatK putRowK putRow putCells grow mapBlock onCells size_flatK get_flatK heap_grow_old)

section
variable {T : Type}
def sortF (cmp : T → T → Int) (l : List T) : List T := l.mergeSort (fun x y => !ltOf cmp y x)
def F_sort [DecidableEq T] (cmp : T → T → Int) (n : Nat) (l : List T) : Option (List T) :=
  if l.length ≤ 1000000000 ∧ ∀ x ∈ l, ∀ y ∈ l, ltOf cmp x y = false → ltOf cmp y x = false → x = y then some (sortF cmp l) else none
theorem sortF_perm (cmp : T → T → Int) (l : List T) : (sortF cmp l).Perm l := List.mergeSort_perm _ _
theorem sortF_sorted {cmp : T → T → Int} (hO : SWO (ltOf cmp)) (l : List T) : (sortF cmp l).Pairwise (fun x y => ltOf cmp y x = false) := by
  have h := List.pairwise_mergeSort (le := fun x y => !ltOf cmp y x) (fun a b c h1 h2 => by
    simp only [Bool.not_eq_true'] at h1 h2 ⊢
    exact hO.ntrans _ _ _ h2 h1) (fun a b => by
    cases h1 : ltOf cmp b a with
    | false => rfl
    | true =>
      cases h2 : ltOf cmp a b with
      | false => simp
      | true => have := hO.trans _ _ _ h1 h2; rw [hO.irrefl] at this; cases this) l
  exact h.imp (fun h => by simpa using h)
theorem sort_uniq {cmp : T → T → Int} (hO : SWO (ltOf cmp)) {l l' : List T} (ht : ∀ x ∈ l, ∀ y ∈ l, ltOf cmp x y = false → ltOf cmp y x = false → x = y) (hp : l'.Perm l) (hs : l'.Pairwise (fun x y => ltOf cmp y x = false)) : l' = sortF cmp l :=
  List.Perm.eq_of_pairwise (le := fun x y => ltOf cmp y x = false) (fun a b ha hb h1 h2 => ht a (hp.mem_iff.1 ha) b ((sortF_perm cmp l).mem_iff.1 hb) h2 h1) hs (sortF_sorted hO l) (hp.trans (sortF_perm cmp l).symm)
end

theorem grow_of_below {w w' : World} (h : Below w.heap.size w w') (hd : w.drawn ≤ w'.drawn) : ∃ q os, w' = grow (w.drewN q) os := by
  refine ⟨w'.drawn - w.drawn, w'.heap.extract w.heap.size w'.heap.size, ?_⟩
  obtain ⟨heap', tape', drawn', os', output'⟩ := w'
  have e1 : os' = w.os := h.os
  have e2 : tape' = w.tape := h.tape
  have e3 : output' = w.output := h.output
  have hs : w.heap.size ≤ heap'.size := h.size
  have hb : ∀ k, k < w.heap.size → heap'[k]? = w.heap[k]? := h.block
  have hd : w.drawn ≤ drawn' := hd
  subst e1 e2 e3
  have eh : heap' = w.heap ++ heap'.extract w.heap.size heap'.size := by
    apply Array.ext_getElem?
    intro k
    by_cases hk : k < w.heap.size
    · rw [Array.getElem?_append_left hk]; exact hb k hk
    · rw [Array.getElem?_append_right (by omega), Array.getElem?_extract]
      by_cases hk2 : k < heap'.size
      · rw [if_pos (by omega)]; congr 1; omega
      · rw [if_neg (by omega), Array.getElem?_eq_none (by omega)]
  have ed : drawn' = w.drawn + (drawn' - w.drawn) := by omega
  simp only [grow, World.drewN]
  congr 1

theorem take_put (F cur : Array Value) (h : F.size ≤ cur.size) : (putCells id 0 F cur).toList.take F.size = F.toList := by
  apply List.ext_getElem?
  intro j
  by_cases hj : j < F.size
  · rw [List.getElem?_take_of_lt hj, Array.getElem?_toList]
    simp [putCells, hj, show j < cur.size by omega]
  · rw [List.getElem?_take_eq_none (by omega), List.getElem?_eq_none (by simp; omega)]

abbrev SEl (w : World) (S : Nat → Prop) (sz : Nat) {T : Type} (encT : T → AV) : Type := { p : List Value × T // p.1.length = sz ∧ (∀ v ∈ p.1, v.oneCell' = true) ∧ Rep w S G0 (encT p.2) (.agg p.1.toArray) }
theorem flat_get {α : Type} [Inhabited α] (enc : α → List Value) (sz : Nat) (hk : ∀ x, (enc x).length = sz) (d : Array α) (k j : Nat) (hkd : k < d.size) (hj : j < sz) : (flatK enc sz d).toList.getD (k * sz + j) undef = (enc d[k]!).getD j undef := by
  have hlt : k * sz + j < d.size * sz := by
    have : (k + 1) * sz ≤ d.size * sz := Nat.mul_le_mul_right _ hkd
    rw [Nat.succ_mul] at this
    omega
  have h1 := get_flatK enc sz d (k * sz + j) hlt
  have e1 : (k * sz + j) / sz = k := by rw [Nat.mul_comm, Nat.mul_add_div (by omega), Nat.div_eq_of_lt hj, Nat.add_zero]
  have e2 : (k * sz + j) % sz = j := by rw [Nat.mul_comm, Nat.mul_add_mod, Nat.mod_eq_of_lt hj]
  rw [e1, e2] at h1
  have h2 : k * sz + j < (flatK enc sz d).size := by rw [size_flatK]; exact hlt
  rw [List.getD_eq_getElem?_getD, Array.getElem?_toList, Array.getElem?_eq_getElem h2, Option.getD_some, ← getElem!_pos (flatK enc sz d) _ h2, h1]
  have h3 : j < (enc d[k]!).length := by rw [hk]; exact hj
  rw [getElem!_pos (enc d[k]!) j h3, List.getD_eq_getElem?_getD, List.getElem?_eq_getElem h3, Option.getD_some]

theorem sort_gen {E Ed : Env} {f g ty sz : Nat} {T : Type} [DecidableEq T] {encT : T → AV} {cmp : T → T → Int} {n : Nat} {l l' : List T} (hP : Ed.P = E.P) (hEd : Ed.dr = true) (he : Enters E f) (heg : Enters E g) (hsz : 0 < sz)
    (hagg : ∀ x, ∃ cs, encT x = .agg cs ∧ cs.length = sz)
    (hsort : ∀ (α : Type) [Inhabited α] (enc : α → List Value) (hk : ∀ x, (enc x).length = sz) (h1 : ∀ x, ∀ v ∈ enc x, v.oneCell' = true) (cf : α → α → Int) (hO : SWO (ltOf cf)) (blk off cap : Nat) (d : Array α) (w : World)
      (hcmp : CmpLays E.P g #[] enc sz cf blk off d.size w) (hH : HoldsK enc sz w blk off d) (hblk : blk < w.heap.size) (hsz : d.size < 4611686018427387904),
      Calls E.P f #[.slice (some ⟨blk, off, none⟩) d.size cap, .func (.func g) #[] #[]] w fun e w' => e = .returned (.tuple #[]) ∧ ∃ d' n os, PermIn 0 d.size d d' ∧ SortedIn (ltOf cf) 0 d.size d' ∧ w' = sortWorldK enc sz w blk off n d' os)
    (hnone : ∀ (p : Option Addr) (cap : Nat) (fv : Value) (w : World), Calls E.P f #[.slice p 0 cap, fv] w fun e w' => e = .returned (.tuple #[]) ∧ w' = w)
    (hc : ∀ x y, Con Ed true g [encT x, encT y] (.int .i64 (cmp x y))) (hO : SWO (ltOf cmp)) (hF : F_sort cmp n l = some l') :
    ConC true E f [.row 0, .fn g []] ty sz (l.map encT) ty sz (l'.map encT) (.tup []) := by
  unfold F_sort at hF
  split at hF
  rotate_left
  · cases hF
  rename_i hcond
  obtain ⟨hll, hties⟩ := hcond
  injection hF with hF
  refine ⟨he, rfl, fun S w0 w vs v us hbw hown hlen hre hone hnS hvs hargs => ?_⟩
  -- the arguments
  have ha := hargs (fun i => if i = 0 then some (some (v.ownBlock, v)) else none) rfl
  have h0 := (ha 0 (by simp)).row_inv (g := v.ownBlock) (s := v) rfl
  obtain ⟨cs, h1, hcs, _⟩ := (ha 1 (by simp)).fn_inv
  have hcs0 : cs = #[] := Array.eq_empty_of_size_eq_zero hcs
  subst hcs0
  have evs : vs = #[v, .func (.func g) #[] #[]] := by
    have := getD2 hvs
    rw [h0, h1] at this
    exact this
  rw [evs]
  clear ha h0 h1 evs
  have hlm : (l.map encT).length = l.length := List.length_map _
  have hl'len : l'.length = l.length := by rw [← hF]; exact (sortF_perm cmp l).length_eq
  -- no element
  have empty : l = [] → Calls E.P f #[v, .func (.func g) #[] #[]] w fun e w' => ∃ u v' us', e = .returned u ∧ w.grownBy w' v.ownBlock ∧ w'.ownsRow w0.heap.size ty sz v' (l'.map encT).length us' ∧ (true = true → v' = v) ∧ (∀ b, v'.ownBlock = some b → v.ownBlock = some b ∨ w.heap.size ≤ b) ∧ (∀ k (hk : k < (l'.map encT).length), ((l'.map encT)[k]).cells.length = sz) ∧
      (∀ k (hk : k < (l'.map encT).length) j (hj : j < ((l'.map encT)[k]).cells.length), Rep w' (fun b => (S b ∨ w.heap.size ≤ b) ∧ v'.ownBlock ≠ some b) G0 (((l'.map encT)[k]).cells[j]) (us'.getD (k * sz + j) undef)) ∧ (∀ u ∈ us', u.oneCell' = true) ∧
      ∀ γ' : Gam, γ' 0 = some (some (v'.ownBlock, v')) → Rep w' (fun b => (S b ∨ w.heap.size ≤ b) ∧ v'.ownBlock ≠ some b) γ' (.tup []) u := fun h0 => by
    have hl0 : l' = [] := by rw [← hF, h0]; simp [sortF]
    subst hl0
    subst h0
    have hv : ∃ p cap, v = .slice p 0 cap := by
      rcases hown.2 with ⟨hv, _⟩ | ⟨b, cap, cur, hv, _⟩
      · exact ⟨none, 0, hv⟩
      · exact ⟨_, cap, hv⟩
    obtain ⟨p, cap, hv⟩ := hv
    have hcall := hnone p cap (.func (.func g) #[] #[]) w
    rw [← hv] at hcall
    refine hcall.mono ?_
    rintro e w' ⟨rfl, rfl⟩
    exact ⟨_, v, us, rfl, World.grownBy.refl _ _, hown, fun _ => rfl, fun b hb => Or.inl hb, fun k hk => absurd hk (by simp), fun k hk => absurd hk (by simp), hone, fun γ' _ => .tup #[] rfl (fun i hi => absurd hi (by simp))⟩
  by_cases hl0 : l = []
  · exact empty hl0
  have hlp : 0 < l.length := List.length_pos_iff.2 hl0
  rcases hown.2 with ⟨_, h0⟩ | ⟨blk, cap, cur, hv, hbb, hh, hn, hm, hs, ht⟩
  · omega
  have hblk : blk < w.heap.size := (Array.getElem?_eq_some_iff.1 hh).1
  have hob : v.ownBlock = some blk := by rw [hv]; rfl
  have husl : us.length = l.length * sz := by rw [hown.1, hlm]
  have hin : ∀ k j, k < l.length → j < sz → k * sz + j < l.length * sz := fun k j hk hj => by
    have : (k + 1) * sz ≤ l.length * sz := Nat.mul_le_mul_right _ hk
    rw [Nat.succ_mul] at this
    omega
  -- the elements
  have hel : ∀ i (hi : i < l.length), ((us.drop (i * sz)).take sz).length = sz ∧ (∀ v ∈ (us.drop (i * sz)).take sz, v.oneCell' = true) ∧ Rep w S G0 (encT l[i]) (.agg ((us.drop (i * sz)).take sz).toArray) := fun i hi => by
    have hlen1 : ((us.drop (i * sz)).take sz).length = sz := by
      rw [List.length_take, List.length_drop]
      have : (i + 1) * sz ≤ l.length * sz := Nat.mul_le_mul_right _ hi
      rw [Nat.succ_mul] at this
      omega
    have hone1 : ∀ v ∈ (us.drop (i * sz)).take sz, v.oneCell' = true := fun v hv => hone v (List.mem_of_mem_drop (List.mem_of_mem_take hv))
    refine ⟨hlen1, hone1, ?_⟩
    obtain ⟨cs, hcs, hcl⟩ := hagg l[i]
    rw [hcs]
    have hget : ∀ j, j < sz → ((us.drop (i * sz)).take sz).toArray.getD j undef = us.getD (i * sz + j) undef := fun j hj => by
      rw [Array.getD_eq_getD_getElem?, List.getElem?_toArray, List.getElem?_take_of_lt hj, List.getElem?_drop, List.getD_eq_getElem?_getD]
    refine .agg _ (by simpa [hcl] using hlen1) (fun j hj => ?_) (fun j hj => ?_)
    · rw [hget j (by omega)]
      have hil : i < (l.map encT).length := by rw [hlm]; exact hi
      have e : (l.map encT)[i] = .agg cs := by rw [List.getElem_map]; exact hcs
      have := hre i hil j (by rw [e]; exact hj)
      simp only [e, AV.cells] at this
      exact this
    · have hj' : j < ((us.drop (i * sz)).take sz).length := by simpa using hj
      rw [Array.getD_eq_getD_getElem?, List.getElem?_toArray, List.getElem?_eq_getElem hj', Option.getD_some]
      exact hone1 _ (List.getElem_mem hj')
  let A := SEl w S sz encT
  let enc : A → List Value := fun p => p.1.1
  let d : Array A := (List.ofFn fun i : Fin l.length => (⟨((us.drop (i.1 * sz)).take sz, l[i.1]), hel i.1 i.2⟩ : A)).toArray
  haveI : Inhabited A := ⟨⟨((us.drop (0 * sz)).take sz, l[0]), hel 0 hlp⟩⟩
  have hds : d.size = l.length := by simp [d]
  have hdi : ∀ i (hi : i < l.length), d[i]! = ⟨((us.drop (i * sz)).take sz, l[i]), hel i hi⟩ := fun i hi => by
    rw [getElem!_pos d i (by rw [hds]; exact hi)]
    simp [d]
  have hk : ∀ x : A, (enc x).length = sz := fun x => x.2.1
  have hcmp : CmpLays E.P g #[] enc sz (fun x y : A => cmp x.1.2 y.1.2) blk 0 d.size w := fun m os dk hdk x y => by
    have hcon := (hc x.1.2 y.1.2).2 S (sortWorldK enc sz w blk 0 m dk os) #[.agg (enc x).toArray, .agg (enc y).toArray] ⟨rfl, fun i hi => ?_⟩
    · rw [hP] at hcon
      refine hcon.mono ?_
      rintro e w' ⟨u, rfl, ⟨hb, hdr⟩, hu⟩
      exact ⟨by rw [hu.int_inv], grow_of_below hb (hdr hEd)⟩
    · have key : ∀ z : A, Rep (sortWorldK enc sz w blk 0 m dk os) S G0 (encT z.1.2) (.agg (enc z).toArray) := fun z => by
        refine z.2.2.2.mono ?_ (fun b hS hb => ⟨?_, hS⟩)
        · simp [sortWorldK, grow, putRowK, putRow, mapBlock, Go.Sort.ahead]
        · have hne : blk ≠ b := fun e => hnS blk hob (e ▸ hS)
          unfold sortWorldK
          rw [heap_grow_old _ _ (by simpa [putRowK, Go.Sort.ahead] using hb)]
          simp [putRowK, putRow, mapBlock, Go.Sort.ahead, Array.getElem?_modify, hne]
      have hi' : i < 2 := hi
      rcases i with _ | _ | i
      · exact key x
      · exact key y
      · omega
  have hH : HoldsK enc sz w blk 0 d := fun j hj => by
    have hj' : j < l.length * sz := by rw [size_flatK, hds] at hj; exact hj
    have hq : j / sz < l.length := Nat.div_lt_of_lt_mul (by rwa [Nat.mul_comm] at hj')
    have hm := Nat.mod_lt j hsz
    have e := flat_get enc sz hk d (j / sz) (j % sz) (by rw [hds]; exact hq) hm
    have ej : j / sz * sz + j % sz = j := by rw [Nat.mul_comm]; exact Nat.div_add_mod j sz
    rw [ej] at e
    have ef : (flatK enc sz d)[j]! = us.getD j undef := by
      rw [getElem!_pos (flatK enc sz d) j hj]
      have h1 : (flatK enc sz d).toList.getD j undef = (flatK enc sz d)[j] := by
        rw [List.getD_eq_getElem?_getD, Array.getElem?_toList, Array.getElem?_eq_getElem hj]; rfl
      rw [← h1, e, hdi _ hq]
      show ((us.drop (j / sz * sz)).take sz).getD (j % sz) undef = us.getD j undef
      rw [List.getD_eq_getElem?_getD, List.getElem?_take_of_lt hm, List.getElem?_drop, ej, ← List.getD_eq_getElem?_getD]
    rw [ef, Nat.zero_add]
    refine ⟨row_cells hown hob j (by rw [hlm]; exact hj'), ?_⟩
    simp [World.frozen?, hh]
  have hOA : SWO (ltOf fun x y : A => cmp x.1.2 y.1.2) := ⟨fun x => hO.irrefl _, fun x y z => hO.trans _ _ _, fun x y z => hO.ntrans _ _ _⟩
  have hcall := hsort A enc hk (fun x => x.2.2.1) (fun x y => cmp x.1.2 y.1.2) hOA blk 0 cap d w hcmp hH hblk (by rw [hds]; omega)
  have ev : v = .slice (some ⟨blk, 0, none⟩) d.size cap := by rw [hv, hlm, hds]
  rw [← ev] at hcall
  refine hcall.mono ?_
  rintro e w' ⟨rfl, d', m, os, ⟨hps, _, hpp⟩, hso, hw'⟩
  have hd's : d'.size = l.length := hps.trans hds
  -- what lies there now
  have e1 : d'.extract 0 d.size = d' := by rw [← hps]; exact Array.extract_size
  rw [e1, Array.extract_size] at hpp
  have hdl : d.toList.map (fun p => p.1.2) = l := by
    simp only [d, List.map_ofFn]
    apply List.ext_getElem
    · simp
    · intro i h1 h2; simp
  have hperm : (d'.toList.map (fun p => p.1.2)).Perm l := by
    have := hpp.map (fun p : A => p.1.2)
    rwa [hdl] at this
  have hsorted : (d'.toList.map (fun p => p.1.2)).Pairwise (fun x y => ltOf cmp y x = false) := by
    rw [List.pairwise_iff_getElem]
    intro i j hi hj hij
    have hi' : i < d'.size := by simpa using hi
    have hj' : j < d'.size := by simpa using hj
    have := hso i j (Nat.zero_le _) hij (by rw [hds, ← hd's]; exact hj')
    rw [getElem!_pos d' i hi', getElem!_pos d' j hj'] at this
    simpa [ltOf] using this
  have hfin : d'.toList.map (fun p => p.1.2) = l' := by rw [← hF]; exact sort_uniq hO hties hperm hsorted
  have hl'k : ∀ k (hk' : k < l'.length), ∃ h : k < d'.size, l'[k] = d'[k].1.2 := fun k hk' => by
    have h : k < d'.size := by omega
    refine ⟨h, ?_⟩
    have : l'[k] = (d'.toList.map (fun p => p.1.2))[k]'(by simpa using h) := by simp only [hfin]
    rw [this]
    simp
  have hgb : w.grownBy w' v.ownBlock := by
    rw [hob, hw']
    refine ⟨rfl, rfl, rfl, by simp [sortWorldK, grow, putRowK, putRow, mapBlock, Go.Sort.ahead], fun k hk hne => ?_⟩
    unfold sortWorldK
    rw [heap_grow_old _ _ (by simpa [putRowK, Go.Sort.ahead] using hk)]
    have : blk ≠ k := fun e => hne (by rw [e])
    simp [putRowK, putRow, mapBlock, Go.Sort.ahead, Array.getElem?_modify, this]
  have hFs : (flatK enc sz d').size = l.length * sz := by rw [size_flatK, hd's]
  have hcap : l.length * sz ≤ cur.size := by
    rw [hs]; rw [hlm] at hn; exact Nat.mul_le_mul_right _ hn
  have hheap : w'.heap[blk]? = some (.cells (putCells id 0 (flatK enc sz d') cur) ty (0, 0)) := by
    rw [hw']
    unfold sortWorldK
    rw [heap_grow_old _ _ (by simpa [putRowK, Go.Sort.ahead] using hblk)]
    simp [putRowK, putRow, mapBlock, Go.Sort.ahead, Array.getElem?_modify, hh, onCells]
  have hrow : ∀ k j, k < l.length → j < sz → (flatK enc sz d').toList.getD (k * sz + j) undef = (enc d'[k]!).getD j undef := fun k j hk' hj => flat_get enc sz hk d' k j (by rw [hd's]; exact hk') hj
  refine ⟨_, v, (flatK enc sz d').toList, rfl, hgb, ⟨by rw [Array.length_toList, hFs, List.length_map, hl'len], Or.inr ⟨blk, cap, _, ?_, hbb, hheap, ?_, hm, ?_, ?_⟩⟩, fun _ => rfl, fun b hb => Or.inl hb, fun k hk' => ?_, fun k hk' j hj => ?_, fun u hu => ?_, fun γ' _ => .tup #[] rfl (fun i hi => absurd hi (by simp))⟩
  · rw [List.length_map, hl'len, hv, hlm]
  · rw [List.length_map, hl'len]; rw [hlm] at hn; exact hn
  · simp [putCells, hs]
  · rw [List.length_map, hl'len, ← hFs]
    exact take_put _ _ (by rw [hFs]; exact hcap)
  · rw [List.getElem_map]
    obtain ⟨cs, hcs, hcl⟩ := hagg (l'[k]'(by simpa using hk'))
    rw [hcs]; exact hcl
  · have hk2 : k < l'.length := by simpa using hk'
    obtain ⟨hkd, hlk⟩ := hl'k k hk2
    have e : (l'.map encT)[k] = encT d'[k].1.2 := by rw [List.getElem_map, hlk]
    simp only [e] at hj ⊢
    obtain ⟨cs, hcs, hcl⟩ := hagg d'[k].1.2
    have hj2 : j < sz := by rw [hcs] at hj; simp only [AV.cells] at hj; omega
    rw [hrow k j (by omega) hj2, getElem!_pos d' k hkd]
    have hrep := d'[k].2.2.2
    rw [hcs] at hrep
    obtain ⟨vs', hvs', hvl, hvr, _⟩ := hrep.agg_inv
    injection hvs' with hvs'
    subst hvs'
    have := hvr j (by omega)
    simp only [hcs, AV.cells]
    rw [Array.getD_eq_getD_getElem?, List.getElem?_toArray, ← List.getD_eq_getElem?_getD] at this
    refine this.mono hgb.size (fun b hS hb => ⟨hgb.block b hb (fun e => hnS b e.symm hS), Or.inl hS, fun e => hnS b e hS⟩)
  · obtain ⟨q, hq, rfl⟩ := List.mem_iff_getElem.1 hu
    have hq' : q < l.length * sz := by rw [Array.length_toList, hFs] at hq; exact hq
    have hqd : q / sz < l.length := Nat.div_lt_of_lt_mul (by rwa [Nat.mul_comm] at hq')
    have hm := Nat.mod_lt q hsz
    have := hrow (q / sz) (q % sz) hqd hm
    have ej : q / sz * sz + q % sz = q := by rw [Nat.mul_comm]; exact Nat.div_add_mod q sz
    rw [ej, List.getD_eq_getElem?_getD, List.getElem?_eq_getElem hq, Option.getD_some] at this
    rw [this]
    have hl2 := hk d'[q / sz]!
    rw [List.getD_eq_getElem?_getD, List.getElem?_eq_getElem (by omega), Option.getD_some]
    exact (d'[q / sz]!).2.2.1 _ (List.getElem_mem _)
end Go.Proofs.YtimkhfaddnanhaaGreat
namespace Go.Proofs.YtimkhfaddnanhaaGreat
open Go.RowKit

abbrev Cel (n : Nat) := { l : List Value // l.length = n ∧ ∀ u ∈ l, u.oneCell' = true }
def encC {n : Nat} (x : Cel n) : List Value := x.1
theorem eokC {P : Program} {T e sz eb : Nat} {i ie : TyI} (hT : TyOk P T i) (hs : i.shape = .slc e sz eb) (he : TyOk P e ie) (hz : 0 < sz) (hzs : ie.zero.cells.size = sz) : EOk P T e sz ie.bytes (encC (n := sz)) := by
  obtain ⟨hu, hce, _⟩ := und_slc hT hs
  obtain ⟨x, h1, h2, h3, h4⟩ := he.both
  exact ⟨hu, ⟨x, ie.zero, h1, h4, by rw [h2, ← he.cells, hce], h3, hzs⟩, hz, fun x => x.2.1, fun x => x.2.2⟩
def F_clone {α : Type} (n : Nat) (l : List α) : Option (List α) := if l.length ≤ 1000000000 then some l else none
theorem clone_gen {f : FuncId} {e sz : Nat} {P : Program} {E : Env} (hP : E.P = P) (hE : Enters E f) (any : ∀ (l : List (Cel sz)) (S : Nat → Prop) (v : Value) (w : World), Sl w S sz encC v l → l.length ≤ 1000000000 → Calls P f #[v] w (RetOwn e sz encC l w)) {α : Type} {enc : α → AV} {n : Nat} {a r : List α} (hF : F_clone n a = some r) :
    ConT E f [.sl sz (List.map enc a)] e sz (List.map enc r) (.row 0) := by
  unfold F_clone at hF
  split at hF
  · rename_i hl
    injection hF with hF
    subst hF
    refine .ofRow ⟨hE, fun S w vs ⟨hn, hr⟩ => ?_⟩
    have e1 := getD1 hn
    have h0 : Rep w S G0 (.sl sz (List.map enc a)) (vs.getD 0 undef) := hr 0 (by simp)
    rw [e1, hP]
    obtain ⟨A, c, hv, hc, hlen, cell, hb, hrr, h1⟩ := h0.sl_inv
    let l : List (Cel sz) := (List.range (List.map enc a).length).map fun k => ⟨(List.range sz).map fun j => cell k j, by simp, fun u hu => by
      obtain ⟨j, _, rfl⟩ := List.mem_map.1 hu
      exact h1 k j⟩
    have hll : l.length = (List.map enc a).length := by simp [l]
    have hlk : ∀ k (hk : k < l.length), (encC l[k]) = (List.range sz).map fun j => cell k j := fun k hk => by simp [l, encC]
    have hsl : Sl w S sz encC (vs.getD 0 undef) l := by
      refine ⟨A, c, by rw [hv, hll], by rw [hll]; exact hc, fun h0 => ?_⟩
      obtain ⟨b, off, hA, hS, hlt, hcell⟩ := hb (by rw [← hll]; exact h0)
      refine ⟨b, off, hA, hS, hlt, fun k hk j u hu => ?_⟩
      rw [hlk k hk] at hu
      have hj : j < sz := by have := (List.getElem?_eq_some_iff.1 hu).1; simpa using this
      rw [List.getElem?_map, List.getElem?_range hj] at hu
      simp only [Option.map_some, Option.some.injEq] at hu
      subst hu
      exact hcell k j (by rw [← hll]; exact hk) hj
    refine (any l S _ w hsl (by rw [hll, List.length_map]; exact hl)).mono fun ed w' ⟨A', c', q1, q2, q3⟩ => ?_
    refine ⟨_, l.flatMap encC, q1, q3, ?_, hlen, fun k hk j hj => ?_, fun u hu => ?_⟩
    · have : w'.ownsRow w.heap.size e sz (.slice A' l.length c') l.length (l.flatMap encC) := q2
      rw [hll] at this
      rw [hll]
      exact this
    · have hj' : j < sz := by rw [hlen k hk] at hj; exact hj
      have hk' : k < l.length := by rw [hll]; exact hk
      have hat := flatMap_at (enc := encC (n := sz)) (fun x _ => x.2.1) k hk' j hj' (cell k j) (by rw [hlk k hk', List.getElem?_map, List.getElem?_range hj']; rfl)
      rw [List.getD_eq_getElem?_getD, hat]
      refine (hrr k hk j hj).mono q3.size (fun b hb hlt => ⟨q3.block b hlt, Or.inl hb, fun e => ?_⟩)
      have h2 : w'.ownsRow w.heap.size _ sz (.slice A' l.length c') l.length (l.flatMap encC) := q2
      rcases h2.2 with ⟨h, _⟩ | ⟨g, cap, cur, h, hg, _⟩
      · rw [h] at e; simp [Value.ownBlock] at e
      · rw [h] at e; simp only [Value.ownBlock, Option.some.injEq] at e; subst e; omega
    · obtain ⟨x, _, hx⟩ := List.mem_flatMap.1 hu
      exact x.2.2 u hx
  · cases hF
theorem ConT.close {E : Env} {f : FuncId} {args xs : List AV} {ty sz : Nat} (h : ConT E f args ty sz xs (.row 0)) (hE : E.dr = false) : Con E false f args (.sl sz xs) :=
  ⟨h.1, fun S w vs ha => (h.2.2 S w vs ha).mono fun e w' ⟨u, v, us, h1, h2, h3, h4, h5, h6, h7⟩ => by
    have hr := h7 (fun _ => some (some (v.ownBlock, v))) rfl
    have huv : u = v := hr.row_inv rfl
    subst huv
    refine ⟨u, h1, ⟨h2, fun h => absurd (hE.symm.trans h) (by simp)⟩, ?_⟩
    have hrep : EntRep w' (fun b => (S b ∨ w.heap.size ≤ b) ∧ u.ownBlock ≠ some b) G0 w.heap.size (some (u.ownBlock, u)) (.row ty sz xs) := ⟨u, us, rfl, slice_one h3, h3, h4, h5, h6⟩
    obtain ⟨s, hs, hrr⟩ := row_sl (S' := fun b => (false = false ∧ S b) ∨ w.heap.size ≤ b) hrep (fun b hb _ => hb.1.elim (fun h => Or.inl ⟨rfl, h⟩) Or.inr) (fun s g hg => by
      injection hg with hg
      injection hg with hg _
      rcases h3.2 with ⟨h, _⟩ | ⟨g', cap, cur, h, hb, _⟩
      · rw [h] at hg; simp [Value.ownBlock] at hg
      · rw [h] at hg; simp only [Value.ownBlock, Option.some.injEq] at hg; subst hg; exact Or.inr hb) G0
    injection hs with hs
    injection hs with _ hs
    rw [hs]
    exact hrr⟩
theorem ConT.sub {E : Env} {f : FuncId} {avs bvs xs : List AV} {ty sz : Nat} {res : AV} (h : SubL avs bvs) (hc : ConT E f bvs ty sz xs res) : ConT E f avs ty sz xs res :=
  ⟨hc.1, hc.2.1, fun S w vs ⟨hl, hr⟩ => hc.2.2 S w vs ⟨by rw [hl, h.len], fun i hi => (hr i (by rw [h.len]; exact hi)).sub (h.at i _ hi)⟩⟩
def Xk (w : World) (g off : Nat) (X : List Value) : Prop := ∃ cur ty fr, w.heap[g]? = some (.cells cur ty fr) ∧ 0 < cur.size ∧ ∀ j u, X[j]? = some u → cur[off + j]? = some u
section
variable {w w' : World} {g off : Nat} {X : List Value}
theorem Xk.lt (h : Xk w g off X) : g < w.heap.size := by
  obtain ⟨cur, ty, fr, h, _⟩ := h
  exact (Array.getElem?_eq_some_iff.1 h).1
theorem Xk.cell (h : Xk w g off X) {j : Nat} {u : Value} (hu : X[j]? = some u) : w.cell? ⟨g, off + j, none⟩ = some u := by
  obtain ⟨cur, ty, fr, h, _, h2⟩ := h
  simp [World.cell?, h, h2 j u hu]
theorem Xk.grown {row : Option Nat} (h : Xk w g off X) (hb : w.grownBy w' row) (hg : some g ≠ row) : Xk w' g off X := by
  have hl := h.lt
  obtain ⟨cur, ty, fr, h, h2⟩ := h
  exact ⟨cur, ty, fr, (hb.block g hl hg).trans h, h2⟩
theorem Xk.alloc (h : Xk w g off X) (o : Obj) : Xk (w.alloc o) g off X := by
  have hl := h.lt
  obtain ⟨cur, ty, fr, h, h2⟩ := h
  exact ⟨cur, ty, fr, (Below.heap_alloc w o g hl).trans h, h2⟩
theorem Xk.shape (h : Xk w g off X) : ∃ t k, k ≠ 0 ∧ w.shape? g = some (t, k) := by
  obtain ⟨cur, ty, fr, h, h1, _⟩ := h
  exact ⟨ty, cur.size, by omega, by simp [World.shape?, h]⟩
theorem Sl.one_x {α : Type} {enc : α → List Value} {sz c : Nat} {x : α} (hc : 1 ≤ c) (h : Xk w g off (enc x)) : Sl w (fun _ => True) sz enc (.slice (some ⟨g, off, none⟩) 1 c) [x] :=
  ⟨_, c, rfl, hc, fun _ => ⟨g, off, rfl, trivial, h.lt, fun k hk j u hu => by
    have : k = 0 := by simpa using hk
    subst this
    simpa using h.cell (by simpa using hu)⟩⟩
end
theorem run_overlaps_b {P : Program} (w : World) (tS tR e : TypeId) (ht : P.underlying tS = some (.slice e)) (size : Nat) (hz : ∀ w, (Go.sizeOf e).run P w = .ok size w)
    (a b : Addr) (la ca lb cb : Nat) (hne : a.block ≠ b.block) (hsa : ∃ t k, k ≠ 0 ∧ w.shape? a.block = some (t, k)) (tB : TypeId) (kB : Nat) (hsb : w.shape? b.block = some (tB, kB)) (hkB : kB ≠ 0)
    (hfb : w.frozen? b = false) (hfe : w.frozen? { block := b.block, off := kB } = false) :
    (Extern.SlicesOverlaps.overlaps #[tS, tS] #[tR] #[.slice (some a) la ca, .slice (some b) lb cb]).run P w = .ok (.bool false) w := by
  have hnb : (a.block != b.block) = true := by simpa using hne
  have hnb' : (a.block == b.block) = false := by simpa using hne
  obtain ⟨tA, kA, hkA, hsa⟩ := hsa
  change Sem.run P (α := Value) (underlying tS >>= _) w = _
  by_cases h0 : la = 0 ∨ lb = 0 ∨ size = 0
  · simp [run_underlying ht, hz, h0]
  · cases kB with
    | zero => exact absurd rfl hkB
    | succ kB =>
      cases kA with
      | zero => exact absurd rfl hkA
      | succ kA =>
        cases hfa : w.frozen? a <;> cases hfa' : w.frozen? { block := a.block, off := kA + 1 } <;>
        simp [run_underlying ht, hz, h0, hnb, hnb', frozen, noView, viewAt, mayBeOne, stringish, shape, Sem.run, hsa, hsb, hfa, hfa', hfb, hfe]

def RetInsX {α : Type} (e : TypeId) (sz : Nat) (enc : α → List Value) (base : Nat) (v : Value) (l : List α) (w0 : World) (r : Ending) (w' : World) : Prop :=
  ∃ A c, r = .returned (.slice A l.length c) ∧ Own w' base e sz enc (.slice A l.length c) l ∧ w0.grownBy w' v.ownBlock ∧ ((Value.slice A l.length c).ownBlock = v.ownBlock ∨ (Value.slice A l.length c).ownBlock = some w0.heap.size)
def F_insert {α : Type} (n : Nat) (a : List α) (i : Int) (v : List α) : Option (List α) :=
  match v with
  | [x] => if 0 ≤ i ∧ i.toNat ≤ a.length ∧ a.length ≤ 1000000000 then some (a.take i.toNat ++ x :: a.drop i.toNat) else none
  | _ => none
theorem chunk_all {sz : Nat} (d : Value) (us : List Value) (n : Nat) (h : us.length = n * sz) : (List.range n).flatMap (fun k => (List.range sz).map fun j => us.getD (k * sz + j) d) = us := by
  induction n generalizing us with
  | zero => simp at h; subst h; rfl
  | succ n ih =>
    rw [List.range_succ_eq_map, List.flatMap_cons, List.flatMap_map]
    have h1 : (List.range sz).map (fun j => us.getD (0 * sz + j) d) = us.take sz := by
      apply List.ext_getElem
      · simp [h, Nat.succ_mul]
      · intro j h1 h2
        have hj : j < us.length := by simp at h2; omega
        simp [List.getElem?_eq_getElem hj]
    have h2 : (fun k => (List.range sz).map fun j => us.getD (k.succ * sz + j) d) = fun k => (List.range sz).map fun j => (us.drop sz).getD (k * sz + j) d := by
      funext k
      refine List.map_congr_left fun j _ => ?_
      rw [List.getD_eq_getElem?_getD, List.getD_eq_getElem?_getD, List.getElem?_drop, Nat.succ_mul, Nat.add_right_comm, Nat.add_comm (k * sz + j) sz]
    rw [h1, h2, ih (us.drop sz) (by rw [List.length_drop, h, Nat.succ_mul]; omega), List.take_append_drop]
theorem insert_gen {f : FuncId} {e sz : Nat} {P : Program} {E : Env} (hP : E.P = P) (hE : Enters E f) (hz : 0 < sz)
    (any : ∀ (l : List (Cel sz)) (x : Cel sz) (i base : Nat) (A : Option Addr) (c g off c1 : Nat) (w : World), Own w base e sz encC (.slice A l.length c) l → Xk w g off (encC x) → 1 ≤ c1 → (Value.slice A l.length c).ownBlock ≠ some g → i ≤ l.length → l.length ≤ 1000000000 → base ≤ w.heap.size →
      Calls P f #[.slice A l.length c, .int .i64 i, .slice (some ⟨g, off, none⟩) 1 c1] w (RetInsX e sz encC base (.slice A l.length c) (l.take i ++ x :: l.drop i) w)) {α : Type} {enc : α → AV} {n : Nat} {a v r : List α} {i : Int} (hF : F_insert n a i v = some r) :
    ConC false E f [.row 0, aI i, .sl sz (List.map enc v)] e sz (List.map enc a) e sz (List.map enc r) (.row 0) := by
  unfold F_insert at hF
  split at hF
  · rename_i x
    split at hF
    · rename_i hc
      obtain ⟨q0, rfl⟩ := Int.eq_ofNat_of_zero_le hc.1
      simp only [Int.toNat_natCast] at hc hF
      injection hF with hF
      subst hF
      refine ⟨hE, rfl, fun S w0 w vs v us hw0 hown hlen hre hone hvS hn hargs => ?_⟩
      have e3 : ∃ p q s, vs = #[p, q, s] := by
        obtain ⟨l⟩ := vs
        match l, hn with
        | [p, q, s], _ => exact ⟨p, q, s, rfl⟩
      obtain ⟨p, q, s, rfl⟩ := e3
      have ha := hargs (fun _ => some (some (v.ownBlock, v))) rfl
      have hp : Rep w S (fun _ => some (some (v.ownBlock, v))) (.row 0) p := ha 0 (by simp)
      have hq : Rep w S (fun _ => some (some (v.ownBlock, v))) (aI q0) q := ha 1 (by simp)
      have hs : Rep w S (fun _ => some (some (v.ownBlock, v))) (.sl sz [enc x]) s := ha 2 (by simp)
      have hpv : p = v := hp.row_inv rfl
      subst hpv
      rw [hq.int_inv]
      obtain ⟨A', c1, rfl, hc1, hxl, cell, hb, hrr, h1⟩ := hs.sl_inv
      obtain ⟨g, off, rfl, hSg, hgl, hcell⟩ := hb (by simp)
      have hxl0 : (enc x).cells.length = sz := hxl 0 (by simp)
      let X : Cel sz := ⟨(List.range sz).map (fun j => cell 0 j), by simp, fun u hu => by obtain ⟨j, _, rfl⟩ := List.mem_map.1 hu; exact h1 0 j⟩
      have hXg : ∀ j, j < sz → (encC X)[j]? = some (cell 0 j) := fun j hj => by simp [encC, X, hj]
      have hX : Xk w g off (encC X) := by
        have h0 := hcell 0 0 (by simp) hz
        simp only [Nat.zero_mul, Nat.add_zero] at h0
        have hobj : ∃ cur ty fr, w.heap[g]? = some (.cells cur ty fr) := by
          unfold World.cell? at h0
          split at h0
          · rename_i cur ty fr hh; exact ⟨cur, ty, fr, hh⟩
          · cases h0
        obtain ⟨cur, ty, fr, hh⟩ := hobj
        have hcc : ∀ j, j < sz → cur[off + j]? = some (cell 0 j) := fun j hj => by
          have := hcell 0 j (by simp) hj
          simpa [World.cell?, hh] using this
        refine ⟨cur, ty, fr, hh, ?_, fun j u hu => ?_⟩
        · have := (Array.getElem?_eq_some_iff.1 (hcc 0 hz)).1; omega
        · have hj : j < sz := by have := (List.getElem?_eq_some_iff.1 hu).1; simpa [encC, X] using this
          rw [hXg j hj] at hu
          rw [hcc j hj, hu]
      let l : List (Cel sz) := (List.range (List.map enc a).length).map fun k => ⟨(List.range sz).map fun j => us.getD (k * sz + j) (.bool true), by simp, fun u hu => by
        obtain ⟨j, _, rfl⟩ := List.mem_map.1 hu
        rw [List.getD_eq_getElem?_getD]
        cases hq : us[k * sz + j]? with
        | none => rfl
        | some u => exact hone u (List.mem_of_getElem? hq)⟩
      have hll : l.length = (List.map enc a).length := by simp [l]
      have hfl : l.flatMap encC = us := by
        have := chunk_all (sz := sz) (.bool true) us (List.map enc a).length hown.1
        rw [← this]
        simp [l, encC, List.flatMap_map]
      have ho : Own w w0.heap.size e sz encC p l := by
        show w.ownsRow _ e sz p l.length (l.flatMap encC)
        rw [hfl, hll]
        exact hown
      obtain ⟨A, c, hpe, hnc, _⟩ := ho.val
      subst hpe
      have hi : q0 ≤ l.length := by rw [hll, List.length_map]; exact hc.2.1
      rw [hP]
      refine (any l X q0 w0.heap.size A c g off c1 w ho hX (by simpa using hc1) (fun e => hvS g e hSg) hi (by rw [hll, List.length_map]; exact hc.2.2) hw0.size).mono ?_
      rintro ed w' ⟨A2, c2, rfl, ho2, hg2, hb2⟩
      have hrl : (List.take q0 l ++ X :: List.drop q0 l).length = (List.map enc (List.take q0 a ++ x :: List.drop q0 a)).length := by
        simp [hll]
      have hvb : ∀ b, (Value.slice A2 (List.take q0 l ++ X :: List.drop q0 l).length c2).ownBlock = some b → (Value.slice A l.length c).ownBlock = some b ∨ w.heap.size ≤ b := fun b hb => by
        rcases hb2 with h | h
        · exact Or.inl (h ▸ hb)
        · rw [h] at hb; injection hb with hb; exact Or.inr (by omega)
      have hown2 : w'.ownsRow w0.heap.size e sz (Value.slice A2 (List.take q0 l ++ X :: List.drop q0 l).length c2) (List.take q0 l ++ X :: List.drop q0 l).length ((List.take q0 l ++ X :: List.drop q0 l).flatMap encC) := ho2
      have hcl : ∀ y ∈ a, (enc y).cells.length = sz := fun y hy => by
        obtain ⟨k, hk, rfl⟩ := List.mem_iff_getElem.1 hy
        have := hlen k (by simpa using hk)
        simpa using this
      -- every element of the new row, with its cells
      have hel : ∀ k (hk : k < (List.take q0 l ++ X :: List.drop q0 l).length) (hk' : k < (List.take q0 a ++ x :: List.drop q0 a).length), ((List.take q0 l ++ X :: List.drop q0 l)[k] = X ∧ (List.take q0 a ++ x :: List.drop q0 a)[k] = x) ∨
          ∃ m, ∃ hm : m < l.length, ∃ hm' : m < a.length, (List.take q0 l ++ X :: List.drop q0 l)[k] = l[m] ∧ (List.take q0 a ++ x :: List.drop q0 a)[k] = a[m] := fun k hk hk' => by
        have hla : l.length = a.length := by rw [hll, List.length_map]
        by_cases h1 : k < q0
        · refine Or.inr ⟨k, by omega, by omega, ?_, ?_⟩
          · rw [List.getElem_append_left (by simp; omega)]; simp
          · rw [List.getElem_append_left (by simp; omega)]; simp
        · by_cases h2 : k = q0
          · refine Or.inl ⟨?_, ?_⟩
            · rw [List.getElem_append_right (by simp; omega)]
              simp only [List.length_take, show k - min q0 l.length = 0 by omega, List.getElem_cons_zero]
            · rw [List.getElem_append_right (by simp; omega)]
              simp only [List.length_take, show k - min q0 a.length = 0 by omega, List.getElem_cons_zero]
          · refine Or.inr ⟨k - 1, by simp at hk; omega, by simp at hk'; omega, ?_, ?_⟩
            · rw [List.getElem_append_right (by simp; omega)]
              simp only [List.length_take, show k - min q0 l.length = (k - 1 - q0) + 1 by omega, List.getElem_cons_succ, List.getElem_drop]
              congr 1
              omega
            · rw [List.getElem_append_right (by simp; omega)]
              simp only [List.length_take, show k - min q0 a.length = (k - 1 - q0) + 1 by omega, List.getElem_cons_succ, List.getElem_drop]
              congr 1
              omega
      refine ⟨_, _, (List.take q0 l ++ X :: List.drop q0 l).flatMap encC, rfl, hg2, by rw [← hrl]; exact hown2, fun h => (by cases h), hvb, fun k hk => ?_, fun k hk j hj => ?_, fun u hu => ?_, fun γ' hγ' => .row hγ' (fun g s e => by injection e with e; injection e with _ e)⟩
      · have hk' : k < (List.take q0 a ++ x :: List.drop q0 a).length := by simpa using hk
        rw [List.getElem_map]
        rcases hel k (by rw [hrl]; exact hk) hk' with ⟨_, h⟩ | ⟨m, hm, hm', _, h⟩
        · rw [h]; exact hxl0
        · rw [h]; exact hcl _ (List.getElem_mem hm')
      · have hk' : k < (List.take q0 a ++ x :: List.drop q0 a).length := by simpa using hk
        have hkl : k < (List.take q0 l ++ X :: List.drop q0 l).length := by rw [hrl]; exact hk
        have hS2 : ∀ b, S b → b < w.heap.size → w'.heap[b]? = w.heap[b]? ∧ ((S b ∨ w.heap.size ≤ b) ∧ (Value.slice A2 (List.take q0 l ++ X :: List.drop q0 l).length c2).ownBlock ≠ some b) := fun b hS hlt =>
          ⟨hg2.block b hlt (fun e => hvS b e.symm hS), Or.inl hS, fun e => by
            rcases hvb b e with h | h
            · exact hvS b h hS
            · omega⟩
        simp only [List.getElem_map] at hj ⊢
        rcases hel k hkl hk' with ⟨hX', hx'⟩ | ⟨m, hm, hm', hX', hx'⟩
        · simp only [hx'] at hj ⊢
          have hj' : j < sz := by omega
          have hat := flatMap_at (enc := encC (n := sz)) (fun y _ => y.2.1) k hkl j hj' (cell 0 j) (by rw [hX']; exact hXg j hj')
          rw [List.getD_eq_getElem?_getD, hat]
          have := hrr 0 (by simp) j hj
          exact Rep.mono this hg2.size hS2
        · simp only [hx'] at hj ⊢
          have hj' : j < sz := by rw [hcl _ (List.getElem_mem hm')] at hj; exact hj
          have hlm : (encC l[m])[j]? = some (us.getD (m * sz + j) undef) := by
            have hlt : m * sz + j < us.length := by
              rw [hown.1, ← hll]
              have : (m + 1) * sz ≤ l.length * sz := Nat.mul_le_mul_right _ hm
              rw [Nat.succ_mul] at this
              omega
            simp [l, encC, hj', List.getElem?_eq_getElem hlt]
          have hat := flatMap_at (enc := encC (n := sz)) (fun y _ => y.2.1) k hkl j hj' _ (by rw [hX']; exact hlm)
          rw [List.getD_eq_getElem?_getD, hat]
          have := hre m (by simpa using hm') j (by simpa using hj)
          simp only [List.getElem_map] at this
          exact Rep.mono this hg2.size hS2
      · obtain ⟨y, _, hy⟩ := List.mem_flatMap.1 hu
        exact y.2.2 u hy
    · cases hF
  · cases hF
end Go.Proofs.YtimkhfaddnanhaaGreat
namespace Go.Proofs
open Go.Shelf
def Tryz.laysSlF06_f120_ren : Go.Shelf.Ren := ⟨fun | 6 => 120 | 15 => 136 | 14 => 135 | 28 => 160 | 29 => 161 | 20 => 152 | 21 => 153 | 22 => 154 | 23 => 155 | 24 => 156 | 25 => 157 | 26 => 158 | 27 => 159 | 46 => 169 | 47 => 170 | 48 => 171 | 49 => 172 | 50 => 173 | 57 => 179 | n => n, fun | 22 => 23 | 24 => 26 | 25 => 112 | 3 => 3 | 39 => 176 | 0 => 0 | 53 => 194 | 55 => 196 | 4 => 4 | 46 => 188 | 45 => 187 | 50 => 182 | 5 => 5 | 9 => 9 | 66 => 202 | 70 => 206 | 76 => 210 | 77 => 53 | n => n, fun | n => n⟩
theorem Tryz.laysSlF06_f120 : Go.Proofs.SlLaysF0.n6 Tryz.prog Tryz.laysSlF06_f120_ren := {
  mixed := by kernel_rfl
  f6 := ⟨Tryz.f120.name, by decide, Tryz.func120.trans (congrArg some (by kernel_rfl))⟩
  f14 := ⟨Tryz.f135.name, by decide, Tryz.func135.trans (congrArg some (by kernel_rfl))⟩
  f15 := Tryz.func136.trans (congrArg some (by kernel_rfl))
  f20 := ⟨Tryz.f152.name, by decide, Tryz.func152.trans (congrArg some (by kernel_rfl))⟩
  f21 := ⟨Tryz.f153.name, by decide, Tryz.func153.trans (congrArg some (by kernel_rfl))⟩
  f22 := ⟨Tryz.f154.name, by decide, Tryz.func154.trans (congrArg some (by kernel_rfl))⟩
  f23 := ⟨Tryz.f155.name, by decide, Tryz.func155.trans (congrArg some (by kernel_rfl))⟩
  f24 := ⟨Tryz.f156.name, by decide, Tryz.func156.trans (congrArg some (by kernel_rfl))⟩
  f25 := ⟨Tryz.f157.name, by decide, Tryz.func157.trans (congrArg some (by kernel_rfl))⟩
  f26 := ⟨Tryz.f158.name, by decide, Tryz.func158.trans (congrArg some (by kernel_rfl))⟩
  f27 := ⟨Tryz.f159.name, by decide, Tryz.func159.trans (congrArg some (by kernel_rfl))⟩
  f28 := Tryz.func160.trans (congrArg some (by kernel_rfl))
  f29 := Tryz.func161.trans (congrArg some (by kernel_rfl))
  f46 := ⟨Tryz.f169.name, by decide, Tryz.func169.trans (congrArg some (by kernel_rfl))⟩
  f47 := Tryz.func170.trans (congrArg some (by kernel_rfl))
  f48 := Tryz.func171.trans (congrArg some (by kernel_rfl))
  f49 := ⟨Tryz.f172.name, by decide, Tryz.func172.trans (congrArg some (by kernel_rfl))⟩
  f50 := ⟨Tryz.f173.name, by decide, Tryz.func173.trans (congrArg some (by kernel_rfl))⟩
  f57 := ⟨Tryz.f179.name, by decide, Tryz.func179.trans (congrArg some (by kernel_rfl))⟩
  t0 := Tryz.underlying0
  a0 := Tryz.isAgg0
  z0 := Tryz.sizeOf0
  v0 := Tryz.zeroValue0
  t3 := Tryz.underlying3
  a3 := Tryz.isAgg3
  z3 := Tryz.sizeOf3
  v3 := Tryz.zeroValue3
  t4 := Tryz.underlying4
  a4 := Tryz.isAgg4
  z4 := Tryz.sizeOf4
  v4 := Tryz.zeroValue4
  t5 := Tryz.underlying5
  a5 := Tryz.isAgg5
  z5 := Tryz.sizeOf5
  v5 := Tryz.zeroValue5
  t9 := Tryz.underlying9
  a9 := Tryz.isAgg9
  z9 := Tryz.sizeOf9
  v9 := Tryz.zeroValue9
  t22 := Tryz.underlying23
  a22 := Tryz.isAgg23
  z22 := Tryz.sizeOf23
  v22 := Tryz.zeroValue23
  t25 := Tryz.underlying112
  a25 := Tryz.isAgg112
  z25 := Tryz.sizeOf112
  v25 := Tryz.zeroValue112
  t39 := Tryz.underlying176
  a39 := Tryz.isAgg176
  z39 := Tryz.sizeOf176
  v39 := Tryz.zeroValue176
  t45 := Tryz.underlying187
  a45 := Tryz.isAgg187
  z45 := Tryz.sizeOf187
  v45 := Tryz.zeroValue187
  t46 := Tryz.underlying188
  a46 := Tryz.isAgg188
  z46 := Tryz.sizeOf188
  v46 := Tryz.zeroValue188
  t50 := Tryz.underlying182
  a50 := Tryz.isAgg182
  z50 := Tryz.sizeOf182
  v50 := Tryz.zeroValue182
  t53 := Tryz.underlying194
  a53 := Tryz.isAgg194
  z53 := Tryz.sizeOf194
  v53 := Tryz.zeroValue194
  t55 := Tryz.underlying196
  a55 := Tryz.isAgg196
  z55 := Tryz.sizeOf196
  v55 := Tryz.zeroValue196
  t66 := Tryz.underlying202
  a66 := Tryz.isAgg202
  z66 := Tryz.sizeOf202
  v66 := Tryz.zeroValue202
  t70 := Tryz.underlying206
  a70 := Tryz.isAgg206
  z70 := Tryz.sizeOf206
  v70 := Tryz.zeroValue206
  t76 := Tryz.underlying210
  a76 := Tryz.isAgg210
  z76 := Tryz.sizeOf210
  v76 := Tryz.zeroValue210
  t77 := Tryz.underlying53
  a77 := Tryz.isAgg53
  z77 := Tryz.sizeOf53
  v77 := Tryz.zeroValue53 }
end Go.Proofs
namespace Go.Proofs.YtimkhfaddnanhaaGreat
open Go.RowKit
structure T_api_Value where
  fKind : Int
  fNum : Int
  fText : ByteArray
deriving DecidableEq, Inhabited
def e_api_Value (x : T_api_Value) : AV := .agg [aI (x.fKind), aI (x.fNum), .str (x.fText)]
structure T_api_Event where
  fSource : Int
  fSeq : Int
  fType : Int
  fTime : Int
  fValues : (List T_api_Value)
deriving DecidableEq, Inhabited
def e_api_Event (x : T_api_Event) : AV := .agg [aI (x.fSource), aI (x.fSeq), aI (x.fType), aI (x.fTime), .sl 3 (List.map e_api_Value (x.fValues))]
structure T_api_Ref where
  fTime : Int
  fSource : Int
  fSeq : Int
deriving DecidableEq, Inhabited
def F_event_Ref_d (n : Nat) (a0 : T_api_Event) : Option (T_api_Ref) :=
  some (⟨a0.fTime, a0.fSource, a0.fSeq⟩)
def F_cmp_isNaN_d (n : Nat) (a0 : Int) : Option (Bool) :=
  some (!decide (a0 = a0))
def F_cmp_Compare_d (n : Nat) (a0 : Int) (a1 : Int) : Option (Int) :=
  bnd (F_cmp_isNaN_d n a0) fun x1 =>
  bnd (F_cmp_isNaN_d n a1) fun x2 =>
  cnd (x1)
    (cnd (x2)
      (some 0)
    <| some (-1))
  <| cnd (x2)
    (some 1)
  <| cnd (decide (a0 < a1))
    (some (-1))
  <| cnd (decide (a1 < a0))
    (some 1)
  <| some 0
def F_cmp_Or_d_l1 (n : Nat) (a0 : (List Int)) (k1_0_0 : Option (Int)) : Nat → Int → Option (Int)
  | 0, _ => none
  | mv1_0 + 1, v1_0 =>
    cnd (decide (v1_0 < (((List.map aI (a0)).length : Nat) : Int)))
      (idx a0 v1_0 fun x41 =>
      cnd (!decide (x41 = 0))
        (some x41)
      <| F_cmp_Or_d_l1 n a0 k1_0_0 mv1_0 (IntKind.wrap .i64 (v1_0 + 1)))
    <| k1_0_0
def F_cmp_Or_d (n : Nat) (a0 : (List Int)) : Option (Int) :=
  F_cmp_Or_d_l1 n a0
    (some 0) n 0
def F_event_Compare_d (n : Nat) (a0 : T_api_Event) (a1 : T_api_Event) : Option (Int) :=
  bnd (F_event_Ref_d n a0) fun x1 =>
  bnd (F_event_Ref_d n a1) fun x2 =>
  cnd ((decide (x1.fTime = x2.fTime) && (decide (x1.fSource = x2.fSource) && (decide (x1.fSeq = x2.fSeq) && true))))
    (some 0)
  <| bnd (F_cmp_Compare_d n a0.fTime a1.fTime) fun x3 =>
  bnd (F_cmp_Compare_d n a0.fSource a1.fSource) fun x4 =>
  bnd (F_cmp_Compare_d n a0.fSeq a1.fSeq) fun x5 =>
  bnd (F_cmp_Or_d n ([x3, x4, x5])) fun x6 =>
  some x6
end Go.Proofs.YtimkhfaddnanhaaGreat
namespace Go.Proofs.YtimkhfaddnanhaaGreat
open Go.RowKit
def R_event_Ref_d (r : T_api_Ref) : AV := .agg [aI (r.fTime), aI (r.fSource), aI (r.fSeq)]
theorem con_event_Ref_d {n : Nat} {a0 : T_api_Event} {r : T_api_Ref} (hF : F_event_Ref_d n a0 = some r) : Con E0d true 97 [.agg [aI (a0.fSource), aI (a0.fSeq), aI (a0.fType), aI (a0.fTime), .sl 3 (List.map e_api_Value (a0.fValues))]] (R_event_Ref_d r) := by
  unfold F_event_Ref_d at hF
  refine Con.walk _ Tryz.func97 rfl (enters_of Tryz.func97 rfl rfl) rfl (Or.inr rfl) ?_
  repeat' first
    | (refine AW.step ?_; conv => whnf)
    | (refine CondX.o hF (fun hF => ?_) (fun hF => ?_))
    | (refine CondX.t ?_)
    | (refine CondX.f ?_)
    | (refine And.intro ⟨by kernel_rfl, by kernel_rfl⟩ ?_)
    | (refine EqX.mk (by first | rfl | kernel_rfl) ?_)
    | (exact RetX.o hF (by repeat' first | exact Sub.nil _ | exact Sub.refl _ | refine Sub.agg ?_ | refine Sub.tup ?_ | refine Sub.fn ?_ | exact SubL.nil | refine SubL.cons ?_ ?_ | refine Sub.sl _ ?_ | exact SubE.nil | refine SubE.cons ?_ ?_))

def R_cmp_isNaN_d (r : Bool) : AV := .bool (r)
theorem con_cmp_isNaN_d {n : Nat} {a0 : Int} {r : Bool} (hF : F_cmp_isNaN_d n a0 = some r) : Con E0d true 100 [aI (a0)] (R_cmp_isNaN_d r) := by
  unfold F_cmp_isNaN_d at hF
  refine Con.walk _ Tryz.func100 rfl (enters_of Tryz.func100 rfl rfl) rfl (Or.inr rfl) ?_
  repeat' first
    | (refine AW.step ?_; conv => whnf)
    | (refine CondX.o hF (fun hF => ?_) (fun hF => ?_))
    | (refine CondX.t ?_)
    | (refine CondX.f ?_)
    | (refine And.intro ⟨by kernel_rfl, by kernel_rfl⟩ ?_)
    | (refine EqX.mk (by first | rfl | kernel_rfl) ?_)
    | (exact RetX.o hF (by repeat' first | exact Sub.nil _ | exact Sub.refl _ | refine Sub.agg ?_ | refine Sub.tup ?_ | refine Sub.fn ?_ | exact SubL.nil | refine SubL.cons ?_ ?_ | refine Sub.sl _ ?_ | exact SubE.nil | refine SubE.cons ?_ ?_))

def R_cmp_Compare_d (r : Int) : AV := aI (r)
theorem con_cmp_Compare_d {n : Nat} {a0 : Int} {a1 : Int} {r : Int} (hF : F_cmp_Compare_d n a0 a1 = some r) : Con E0d true 99 [aI (a0), aI (a1)] (R_cmp_Compare_d r) := by
  unfold F_cmp_Compare_d at hF
  refine Con.walk _ Tryz.func99 rfl (enters_of Tryz.func99 rfl rfl) rfl (Or.inr rfl) ?_
  repeat' first
    | (refine AW.step ?_; conv => whnf)
    | (refine CondX.o hF (fun hF => ?_) (fun hF => ?_))
    | (refine CondX.t ?_)
    | (refine CondX.f ?_)
    | (refine CallX.o hF R_cmp_isNaN_d (fun a h => con_cmp_isNaN_d h) (fun a hF => ?_))
    | (refine And.intro ⟨by kernel_rfl, by kernel_rfl⟩ ?_)
    | (refine EqX.mk (by first | rfl | kernel_rfl) ?_)
    | (exact RetX.o hF (by repeat' first | exact Sub.nil _ | exact Sub.refl _ | refine Sub.agg ?_ | refine Sub.tup ?_ | refine Sub.fn ?_ | exact SubL.nil | refine SubL.cons ?_ ?_ | refine Sub.sl _ ?_ | exact SubE.nil | refine SubE.cons ?_ ?_))

def S_cmp_Or_d_l1 (a0 : (List Int)) (v1_0 : Int) : AS := ⟨[(3, aI (0)), (6, .sl 1 (List.map aI (a0))), (7, aI ((((List.map aI (a0)).length : Nat) : Int))), (8, aI (v1_0))], []⟩
theorem cmp_Or_d_l1_o {n N : Nat} {a0 : (List Int)} {k1_0_0 : Option (Int)} {R : Exit → AS → Prop} {K : List KItem} {c : Code} {σ : AS} {v0 : Int} {r : Int} (hF : F_cmp_Or_d_l1 n a0 k1_0_0 N v0 = some r) (hl : LeX E0d 18 σ (S_cmp_Or_d_l1 a0 v0)) (round : ∀ m v, F_cmp_Or_d_l1 n a0 k1_0_0 (m + 1) v = some r → AW E0d 18 (thenA (fun σ' => ∃ v', F_cmp_Or_d_l1 n a0 k1_0_0 m v' = some r ∧ LeX E0d 18 σ' (S_cmp_Or_d_l1 a0 v')) (AW E0d 18 R K)) [.code c] .normal (S_cmp_Or_d_l1 a0 v)) : LoopX E0d 18 (fun next σ' => AW E0d 18 (thenA next (AW E0d 18 R K)) [.code c] .normal σ') σ :=
  LoopA.o (S := S_cmp_Or_d_l1 a0) hF (fun _ => rfl) hl round
def R_cmp_Or_d (r : Int) : AV := aI (r)
theorem con_cmp_Or_d {n : Nat} {a0 : (List Int)} {r : Int} (hF : F_cmp_Or_d n a0 = some r) : Con E0d true 98 [.sl 1 (List.map aI (a0))] (R_cmp_Or_d r) := by
  unfold F_cmp_Or_d at hF
  refine Con.walk _ Tryz.func98 rfl (enters_of Tryz.func98 rfl rfl) rfl (Or.inr rfl) ?_
  repeat' first
    | (refine AW.step ?_; conv => whnf)
    | (refine CondX.o hF (fun hF => ?_) (fun hF => ?_))
    | (refine CondX.t ?_)
    | (refine CondX.f ?_)
    | (refine IdxX.o aI hF (fun x hF => ?_))
    | (exact ⟨_, hF, LeX.of [] rfl ⟨⟨rfl, rfl⟩, ⟨rfl, rfl⟩, ⟨rfl, rfl⟩, ⟨rfl, rfl⟩, trivial⟩ trivial⟩)
    | (refine cmp_Or_d_l1_o hF (LeX.of [] rfl ⟨⟨rfl, rfl⟩, ⟨rfl, rfl⟩, ⟨rfl, rfl⟩, ⟨rfl, rfl⟩, trivial⟩ trivial) (fun m v hF => ?_); unfold F_cmp_Or_d_l1 at hF)
    | (refine And.intro ⟨by kernel_rfl, by kernel_rfl⟩ ?_)
    | (refine EqX.mk (by first | rfl | kernel_rfl) ?_)
    | (exact RetX.o hF (by repeat' first | exact Sub.nil _ | exact Sub.refl _ | refine Sub.agg ?_ | refine Sub.tup ?_ | refine Sub.fn ?_ | exact SubL.nil | refine SubL.cons ?_ ?_ | refine Sub.sl _ ?_ | exact SubE.nil | refine SubE.cons ?_ ?_))

def R_event_Compare_d (r : Int) : AV := aI (r)
theorem con_event_Compare_d {n : Nat} {a0 : T_api_Event} {a1 : T_api_Event} {r : Int} (hF : F_event_Compare_d n a0 a1 = some r) : Con E0d true 69 [.agg [aI (a0.fSource), aI (a0.fSeq), aI (a0.fType), aI (a0.fTime), .sl 3 (List.map e_api_Value (a0.fValues))], .agg [aI (a1.fSource), aI (a1.fSeq), aI (a1.fType), aI (a1.fTime), .sl 3 (List.map e_api_Value (a1.fValues))]] (R_event_Compare_d r) := by
  unfold F_event_Compare_d at hF
  refine Con.walk _ Tryz.func69 rfl (enters_of Tryz.func69 rfl rfl) rfl (Or.inr rfl) ?_
  repeat' first
    | (refine AW.step ?_; conv => whnf)
    | (refine CondX.o hF (fun hF => ?_) (fun hF => ?_))
    | (refine CondX.t ?_)
    | (refine CondX.f ?_)
    | (refine CallX.o hF R_event_Ref_d (fun a h => con_event_Ref_d h) (fun a hF => ?_))
    | (refine CallX.o hF R_cmp_Compare_d (fun a h => con_cmp_Compare_d h) (fun a hF => ?_))
    | (refine CallX.o hF R_cmp_Or_d (fun a h => con_cmp_Or_d h) (fun a hF => ?_))
    | (refine And.intro ⟨by kernel_rfl, by kernel_rfl⟩ ?_)
    | (refine EqX.mk (by first | rfl | kernel_rfl) ?_)
    | (exact RetX.o hF (by repeat' first | exact Sub.nil _ | exact Sub.refl _ | refine Sub.agg ?_ | refine Sub.tup ?_ | refine Sub.fn ?_ | exact SubL.nil | refine SubL.cons ?_ ?_ | refine Sub.sl _ ?_ | exact SubE.nil | refine SubE.cons ?_ ?_))

end Go.Proofs.YtimkhfaddnanhaaGreat
namespace Go.Proofs.YtimkhfaddnanhaaGreat
open Go.RowKit

section
variable {α β : Type}
theorem cnd_t (x y : Option β) : cnd true x y = x := by unfold cnd; rfl
theorem cnd_f (x y : Option β) : cnd false x y = y := by unfold cnd; rfl
theorem cnd_if (p : Prop) [Decidable p] (x y : Option β) : cnd (decide p) x y = if p then x else y := by
  by_cases h : p <;> simp [h, cnd_t, cnd_f]
theorem cnd_not (b : Bool) (x y : Option β) : cnd (!b) x y = cnd b y x := by cases b <;> simp [cnd_t, cnd_f]
theorem cnd_b (b : Bool) (x y : Option β) : cnd b x y = if b = true then x else y := by cases b <;> simp [cnd_t, cnd_f]
theorem bnd_some (a : α) (k : α → Option β) : bnd (some a) k = k a := by unfold bnd; rfl
theorem bndR_some (a : α) (k : α → Option β) : bndR (some a) k = k a := by unfold bndR; rfl
theorem bndC_some (a : α) (k : α → Option β) : bndC (some a) k = k a := by unfold bndC; rfl
theorem reg_eq (x : Option β) : reg x = x := by unfold reg; rfl
theorem frz_eq (i : Nat) (x : Option β) : frz i x = x := by unfold frz; rfl
theorem idx_nat {l : List α} {i : Nat} (h : i < l.length) (k : α → Option β) : idx l (i : Int) k = k l[i] := by
  unfold idx
  simp [h]
theorem idx_int {l : List α} {n : Int} (h0 : 0 ≤ n) (h : n.toNat < l.length) (k : α → Option β) : idx l n k = k l[n.toNat] := by
  unfold idx
  simp [h, h0]
theorem idx_zero {x : α} {l : List α} (k : α → Option β) : idx (x :: l) 0 k = k x := by unfold idx; simp
theorem nat_nat {i len : Nat} (h : i < len) (k : Nat → Option β) : nat (i : Int) len k = k i := by
  unfold nat
  simp [h]
theorem nat_int {n : Int} {len : Nat} (h0 : 0 ≤ n) (h : n.toNat < len) (k : Nat → Option β) : nat n len k = k n.toNat := by
  unfold nat
  simp [h, h0]
theorem ltx_ok {m len : Nat} (h : m < len) (x : Option β) : ltx m len x = x := by unfold ltx; simp [h]
theorem elt_ok {l : List α} {m : Nat} (h : m < l.length) (k : α → Option β) : elt l m k = k l[m] := by unfold elt; simp [h]
theorem stx_ok {l : List α} {m : Nat} (h : m < l.length) (f : α → α) (k : List α → Option β) : stx l m f k = k (l.set m (f l[m])) := by unfold stx; simp [h]
theorem app_ok {l m : List α} {bytes : Nat} (h : l.length + m.length ≤ 1000000000) (hb : bytes ≤ 100000) (k : List α → Option β) : app l m bytes k = k (l ++ m) := by
  unfold app
  have h2 := Nat.mul_le_mul h hb
  rw [if_pos ⟨by omega, by omega⟩]
theorem mak_ok {n : Nat} {bytes : Nat} (h : n ≤ 1000000000) (hb : bytes ≤ 100000) (z : α) (k : List α → Option β) : mak (n : Int) bytes z k = k (List.replicate n z) := by
  unfold mak
  have h2 := Nat.mul_le_mul hb h
  rw [if_pos ⟨by omega, by simp only [Int.toNat_natCast]; omega, by simp only [Int.toNat_natCast]; omega⟩]
  simp only [Int.toNat_natCast]
theorem sls_ok {l : List α} {a b : Nat} (h1 : a ≤ b) (h2 : b ≤ l.length) (k : List α → Option β) : sls l (a : Int) (b : Int) k = k ((l.take b).drop a) := by
  unfold sls
  rw [if_pos (by omega)]
  simp
theorem shx_ok {b : Int} (h : 0 ≤ b) (x : Option β) : shx b x = x := by unfold shx; simp [h]
theorem nzx_ok {b : Int} (h : b ≠ 0) (x : Option β) : nzx b x = x := by unfold nzx; simp [h]
theorem wrapS (k : Nat) (h : k ≤ 1000000000000) : IntKind.wrap .i64 ((k : Int) + 1) = ((k + 1 : Nat) : Int) := by rw [wrap_in _ (by omega)]; omega
end
end Go.Proofs.YtimkhfaddnanhaaGreat
namespace Go.Proofs.YtimkhfaddnanhaaGreat
open Go.RowKit

theorem Con.lo {fr : Bool} {f : FuncId} {avs : List AV} {res : AV} (h : Con E0d fr f avs res) : Con E0 fr f avs res :=
  ⟨h.1, fun S w vs ha => (h.2 S w vs ha).mono fun e w' ⟨v, h1, h2, h3⟩ => ⟨v, h1, belE0 h2.1, h3⟩⟩

def cmpI (a b : Int) : Int := if a < b then -1 else if b < a then 1 else 0
def or3 (a b c : Int) : Int := if a = 0 then (if b = 0 then c else b) else a
theorem f_cmp (n : Nat) (a b : Int) : F_cmp_Compare_d n a b = some (cmpI a b) := by
  unfold F_cmp_Compare_d F_cmp_isNaN_d
  simp only [bnd_some, decide_true, Bool.not_true, cnd_f, cnd_if, cmpI]
  split
  · rfl
  · split <;> rfl
theorem f_or3 (n : Nat) (a b c : Int) : F_cmp_Or_d (n + 4) [a, b, c] = some (or3 a b c) := by
  have w0 : IntKind.wrap .i64 ((0 : Int) + 1) = 1 := by decide
  have w1 : IntKind.wrap .i64 ((1 : Int) + 1) = 2 := by decide
  have w2 : IntKind.wrap .i64 ((2 : Int) + 1) = 3 := by decide
  unfold F_cmp_Or_d or3
  simp only [F_cmp_Or_d_l1, List.map_cons, List.map_nil, List.length_cons, List.length_nil, cnd_if, cnd_not, w0, w1, w2]
  simp only [idx]
  by_cases ha : a = 0
  · by_cases hb : b = 0
    · by_cases hc : c = 0 <;> simp [ha, hb, hc]
    · simp [ha, hb]
  · simp [ha]
def evCmp (a b : T_api_Event) : Int := or3 (cmpI a.fTime b.fTime) (cmpI a.fSource b.fSource) (cmpI a.fSeq b.fSeq)
theorem f_evCmp (n : Nat) (a b : T_api_Event) : F_event_Compare_d (n + 4) a b = some (evCmp a b) := by
  unfold F_event_Compare_d F_event_Ref_d
  simp only [bnd_some, f_cmp, f_or3, Bool.and_true, cnd_b, Bool.and_eq_true, decide_eq_true_eq]
  split
  · rename_i h
    obtain ⟨h1, h2, h3⟩ := h
    simp [evCmp, or3, cmpI, h1, h2, h3]
  · rfl
theorem evCmp_lt (a b : T_api_Event) : evCmp a b < 0 ↔ a.fTime < b.fTime ∨ (a.fTime = b.fTime ∧ (a.fSource < b.fSource ∨ (a.fSource = b.fSource ∧ a.fSeq < b.fSeq))) := by
  unfold evCmp or3 cmpI
  split <;> split <;> (try split) <;> (try split) <;> (try split) <;> (try split) <;> omega
theorem evCmp_swo : Go.Sort.SWO (ltOf evCmp) := by
  have h : ∀ x y, ltOf evCmp x y = decide (x.fTime < y.fTime ∨ (x.fTime = y.fTime ∧ (x.fSource < y.fSource ∨ (x.fSource = y.fSource ∧ x.fSeq < y.fSeq)))) := fun x y => by
    unfold ltOf; exact decide_eq_decide.2 (evCmp_lt x y)
  refine ⟨fun x => ?_, fun x y z h1 h2 => ?_, fun x y z h1 h2 => ?_⟩ <;> simp only [h, decide_eq_true_eq, decide_eq_false_iff_not] at * <;> omega
def F_evCmp (n : Nat) (a b : T_api_Event) : Option Int := some (evCmp a b)
theorem con_evCmp_d (a b : T_api_Event) : Con E0d true 69 [e_api_Event a, e_api_Event b] (.int .i64 (evCmp a b)) := con_event_Compare_d (f_evCmp 6 a b)
theorem con_evCmp {n : Nat} {a b : T_api_Event} {r : Int} (hF : F_evCmp n a b = some r) : Con E0 true 69 [e_api_Event a, e_api_Event b] (R_event_Compare_d r) := by
  injection hF with hF; subst hF; exact (con_event_Compare_d (f_evCmp 6 a b)).lo
theorem sortEv_con {n : Nat} {l l' : List T_api_Event} (hF : F_sort evCmp n l = some l') : ConC true E0 120 [.row 0, .fn 69 []] 26 5 (l.map e_api_Event) 26 5 (l'.map e_api_Event) (.tup []) :=
  sort_gen (Ed := E0d) rfl rfl (enters_of Tryz.func120 rfl rfl) (enters_of Tryz.func69 rfl rfl) (by omega) (fun x => ⟨_, rfl, rfl⟩)
    (fun α _ enc hk h1 cf hO blk off cap d w hcmp hH hblk hsz => AnyQ.slices_SortFunc Tryz.laysSlF06_f120 5 Tryz.isAgg26 Tryz.sizeOf26 enc hk h1 cf hO 69 #[] blk off cap d w (enters_of Tryz.func69 rfl rfl) hcmp hH hblk hsz)
    (fun p cap fv w => AnyF.slices_SortFunc_none Tryz.laysSlF06_f120 p cap fv w) con_evCmp_d evCmp_swo hF
end Go.Proofs.YtimkhfaddnanhaaGreat
namespace Go.Proofs.YtimkhfaddnanhaaGreat
open Go.RowKit

theorem drop_cons {α : Type} (l : List α) (k : Nat) (h : k < l.length) : l.drop k = l[k] :: l.drop (k + 1) := List.drop_eq_getElem_cons h

def sqLoop : Int → List Int → Int
  | _, [] => 0
  | last, n :: r => if n < 0 ∨ 1099511627776 < n then 2 else if n ≤ last then 14 else sqLoop n r
def sqCheck (t : Trk) : Int :=
  if t.next < 0 ∨ 1099511627777 < t.next then 2 else if 256 < t.beyond.length then 5 else sqLoop t.next t.beyond
def hasB (t : Trk) (seq : Int) : Bool := if seq < t.next then decide (0 ≤ seq) else t.beyond.contains seq

def ptValid (p : Pt) : Bool := decide (0 ≤ p.seq) && (decide (p.seq ≤ 1099511627777) && (decide (0 ≤ p.time) && decide (p.time ≤ 1099511627776)))
def implies (a b : Pt) : Bool := decide (a.seq ≤ b.seq) && decide (b.time ≤ a.time)
def ascLoop : Pt → List Pt → Int
  | _, [] => 0
  | last, p :: r => if ptValid p = false then 2 else if p.seq ≤ last.seq ∨ p.time ≤ last.time then 14 else ascLoop p r
def asc (t : Trk) (last : Pt) : Int :=
  if sqCheck t ≠ 0 then sqCheck t else if t.mark < -1 ∨ 1099511627776 < t.mark then 2 else if 256 < t.points.length then 5 else ascLoop last t.points
def puCheck (t : Trk) : Int := asc t ⟨t.next, t.mark⟩
def latest (mark : Int) (l : List Pt) (seq : Int) : Int := (l.filter fun p => decide (p.seq ≤ seq)).foldl (fun m p => max m p.time) mark

end Go.Proofs.YtimkhfaddnanhaaGreat
namespace Go.Proofs.YtimkhfaddnanhaaGreat
open Go.RowKit

def allowsT (t : Trk) (seq time : Int) : Bool × Int :=
  if puCheck t ≠ 0 then (false, puCheck t) else
  if seq < 0 ∨ 1099511627776 < seq ∨ time < 0 ∨ 1099511627776 < time then (false, 2) else
  if seq < t.next ∨ t.beyond.contains seq = true then (false, 7) else (decide (latest t.mark t.points seq < time), 0)
def hits (l : List Pt) (seq time : Int) : Bool := l.any fun p => decide (p.seq ≤ seq) && decide (time ≤ p.time)
def allowsR (t : Trk) (seq time : Int) : Bool × Int :=
  if puCheck t ≠ 0 then (false, puCheck t) else
  if seq < 0 ∨ 1099511627776 < seq ∨ time < 0 ∨ 1099511627776 < time then (false, 2) else
  if hasB t seq = true then (false, 7) else if time ≤ t.mark then (false, 0) else (!hits t.points seq time, 0)

theorem foldl_max_lt (l : List Pt) (a time : Int) : l.foldl (fun m p => max m p.time) a < time ↔ a < time ∧ ∀ p ∈ l, p.time < time := by
  induction l generalizing a with
  | nil => simp
  | cons x r ih =>
    rw [List.foldl_cons, ih]
    simp only [List.mem_cons, forall_eq_or_imp]
    constructor
    · rintro ⟨h1, h2⟩; exact ⟨by omega, by omega, h2⟩
    · rintro ⟨h1, h2, h3⟩; exact ⟨by omega, h3⟩
theorem latest_lt (mark : Int) (l : List Pt) (seq time : Int) : latest mark l seq < time ↔ mark < time ∧ hits l seq time = false := by
  unfold latest hits
  rw [foldl_max_lt, List.any_eq_false]
  simp only [List.mem_filter, decide_eq_true_eq, Bool.and_eq_true, not_and, Int.not_le]
  constructor
  · rintro ⟨h1, h2⟩; exact ⟨h1, fun p hp hs => h2 p ⟨hp, hs⟩⟩
  · rintro ⟨h1, h2⟩; exact ⟨h1, fun p ⟨hp, hs⟩ => h2 p hp hs⟩
theorem allows_eq (t : Trk) (seq time : Int) : allowsR t seq time = allowsT t seq time := by
  unfold allowsR allowsT
  split
  · rfl
  split
  · rfl
  rename_i h1 h2
  have hs : 0 ≤ seq := by omega
  have hh : hasB t seq = true ↔ seq < t.next ∨ t.beyond.contains seq = true := by
    unfold hasB
    by_cases h : seq < t.next
    · simp [h, hs]
    · simp [h]
  by_cases h3 : hasB t seq = true
  · rw [if_pos h3, if_pos (hh.1 h3)]
  · rw [if_neg h3, if_neg (fun h => h3 (hh.2 h))]
    by_cases h4 : time ≤ t.mark
    · rw [if_pos h4]
      congr 1
      symm
      rw [decide_eq_false_iff_not, latest_lt]
      omega
    · rw [if_neg h4]
      congr 1
      rw [Bool.eq_iff_iff, decide_eq_true_iff, latest_lt]
      simp
      omega

def zeroT : Trk := ⟨0, [], [], 0⟩
def settleT (t : Trk) : Trk × Int :=
  if asc t ⟨-1, -1⟩ ≠ 0 then (zeroT, asc t ⟨-1, -1⟩) else
  (⟨t.next, t.beyond, t.points.filter fun p => decide (t.next < p.seq) && decide (latest t.mark t.points t.next < p.time), latest t.mark t.points t.next⟩, 0)

def below (l : List Pt) (s : Int) : Nat := (l.filter fun p => decide (p.seq < s)).length
def addT (t : Trk) (p : Pt) : Trk × Int :=
  if puCheck t ≠ 0 then (zeroT, puCheck t) else if ptValid p = false then (zeroT, 2) else
  if p.time ≤ t.mark ∨ (t.points.any fun x => implies x p) = true then (t, 0) else
  if p.seq ≤ t.next then (⟨t.next, t.beyond, t.points.filter fun x => !implies p x, p.time⟩, 0) else
  if 256 < ((t.points.filter fun x => !implies p x).length + 1) then (zeroT, 5) else
  (⟨t.next, t.beyond, (t.points.filter fun x => !implies p x).take (below (t.points.filter fun x => !implies p x) p.seq) ++ p :: (t.points.filter fun x => !implies p x).drop (below (t.points.filter fun x => !implies p x) p.seq), t.mark⟩, 0)

def withLoop (p : Pt) : Bool → List Pt → List Pt → Bool × List Pt
  | put, acc, [] => (put, acc)
  | put, acc, x :: r =>
    let put' := put || decide (p.seq < x.seq)
    let acc' := if put = false ∧ p.seq < x.seq then acc ++ [p] else acc
    withLoop p put' (if implies p x = true then acc' else acc' ++ [x]) r
def withR (t : Trk) (p : Pt) : Trk :=
  if p.time ≤ t.mark then t else if (t.points.any fun x => implies x p) = true then t else
  let r := withLoop p (decide (p.seq ≤ t.next)) [] t.points
  ⟨t.next, t.beyond, if r.1 = true then r.2 else r.2 ++ [p], if p.seq ≤ t.next then p.time else t.mark⟩
def addR (t : Trk) (p : Pt) : Trk × Int :=
  if puCheck t ≠ 0 then (zeroT, puCheck t) else if ptValid p = false then (zeroT, 2) else
  if 256 < (withR t p).points.length then (zeroT, 5) else (withR t p, 0)

end Go.Proofs.YtimkhfaddnanhaaGreat
namespace Go.Proofs.YtimkhfaddnanhaaGreat
open Go.RowKit

def aPt (p : Pt) : AV := .agg [aI p.seq, aI p.time]
def aInts (l : List Int) : AV := .sl 1 (l.map aI)
def aPts (l : List Pt) : AV := .sl 2 (l.map aPt)
def aTrk (t : Trk) : AV := .agg [aI t.next, aInts t.beyond, aPts t.points, aI t.mark]

end Go.Proofs.YtimkhfaddnanhaaGreat
namespace Go.Proofs.YtimkhfaddnanhaaGreat
open Go.RowKit

theorem ret_int {k : IntKind} {a b : Int} (h : a = b) : Ending.returned (.int k a) = .returned (.int k b) := by rw [h]
theorem ret_bool {a b : Bool} (h : a = b) : Ending.returned (.bool a) = .returned (.bool b) := by rw [h]

set_option maxHeartbeats 400000 in
theorem valid_any (s t : Int) (w : World) :
    Calls Tryz.prog 126 #[.agg #[.int .i64 s, .int .i64 t]] w fun e w' => e = .returned (.bool (ptValid ⟨s, t⟩)) ∧ Below w.heap.size w w' := by
  go_enter Tryz.func126, Tryz.ntmps126
  go_wp2
  all_goals (go_ret; exact ⟨ret_bool (by rw [Bool.eq_iff_iff]; simp only [ptValid, Bool.and_eq_true, decide_eq_true_eq, Bool.false_eq_true, false_iff, true_iff]; omega), by go_grown⟩)

set_option maxHeartbeats 400000 in
theorem rvalid_any (s t : Int) (w : World) :
    Calls Tryz.prog 105 #[.agg #[.int .i64 s, .int .i64 t]] w fun e w' => e = .returned (.bool (ptValid ⟨s, t⟩)) ∧ Below w.heap.size w w' := by
  go_enter Tryz.func105, Tryz.ntmps105
  go_wp2
  all_goals (go_ret; exact ⟨ret_bool (by rw [Bool.eq_iff_iff]; simp only [ptValid, Bool.and_eq_true, decide_eq_true_eq, Bool.false_eq_true, false_iff, true_iff]; omega), by go_grown⟩)

set_option maxHeartbeats 400000 in
theorem implies_any (s t s' t' : Int) (w : World) :
    Calls Tryz.prog 147 #[.agg #[.int .i64 s, .int .i64 t], .agg #[.int .i64 s', .int .i64 t']] w fun e w' => e = .returned (.bool (implies ⟨s, t⟩ ⟨s', t'⟩)) ∧ Below w.heap.size w w' := by
  go_enter Tryz.func147, Tryz.ntmps147
  go_wp2
  all_goals (go_ret; exact ⟨ret_bool (by rw [Bool.eq_iff_iff]; simp only [implies, Bool.and_eq_true, decide_eq_true_eq, Bool.false_eq_true, false_iff, true_iff]; omega), by go_grown⟩)

set_option maxHeartbeats 400000 in
theorem sqCheck_any (t : Trk) (S : Nat → Prop) (v : Value) (w : World) (h : TrkV w S v t) :
    Calls Tryz.prog 125 #[v] w fun e w' => e = .returned (.int .i64 (sqCheck t)) ∧ Below w.heap.size w w' := by
  obtain ⟨vb, vp, rfl, hB, hP⟩ := h
  obtain ⟨A, c, rfl, hc, hcell⟩ := ints_form hB
  obtain ⟨next, l, pts, mark⟩ := t
  dsimp only at *
  have hc' := hide hcell; clear hcell
  have hgoal : Hid (sqCheck ⟨next, l, pts, mark⟩ = if next < 0 ∨ 1099511627777 < next then 2 else if 256 < l.length then 5 else sqLoop next l) := rfl
  go_enter Tryz.func125, Tryz.ntmps125
  go_wp2
  all_goals first
    | (go_ret; refine ⟨ret_int ?_, by go_grown⟩; rw [hgoal.out]; repeat (first | rw [if_pos (by omega)] | rw [if_neg (by omega)]))
    | skip
  go_loopw [3, 25] (fun last i wr => ∃ (k : Nat) (a : Int), k ≤ l.length ∧ i = .int .i64 k ∧ last = .int .i64 a ∧ Hid (sqLoop a (l.drop k) = sqLoop next l) ∧ Below w.heap.size w wr) (fun _ i _ => l.length - (intOf i).toNat)
  case atStart => exact ⟨0, _, Nat.zero_le _, rfl, rfl, rfl, by go_grown⟩
  case round =>
      obtain ⟨k, a, hk, rfl, rfl, hs, hb⟩ := hrel
      by_cases hlt : k < l.length
      · obtain ⟨b, off, rfl, hbl, hx⟩ := hc'.out k hlt
        have hx := cell_later hb hx
        have hs1 := hide (drop_cons l k hlt)
        generalize l[k] = n at *
        go_wp2
        all_goals first
          | (go_ret; refine ⟨ret_int ?_, hb⟩; rw [hgoal.out, if_neg (by omega), if_neg (by omega), ← hs.out, hs1.out, sqLoop]; repeat (first | rw [if_pos (by omega)] | rw [if_neg (by omega)]))
          | skip
        go_roundw
        case rel => exact ⟨k + 1, _, by omega, by go_num, rfl, by unfold Hid; rw [← hs.out, hs1.out, sqLoop, if_neg (by omega), if_neg (by omega)], hb⟩
        case measure => simp [intOf]; omega
      · go_wp2
        go_ret
        refine ⟨ret_int ?_, hb⟩
        rw [hgoal.out, if_neg (by omega), if_neg (by omega), ← hs.out, List.drop_eq_nil_of_le (by omega), sqLoop]

set_option maxHeartbeats 400000 in
theorem rsqCheck_any (t : Trk) (S : Nat → Prop) (v : Value) (w : World) (h : TrkV w S v t) :
    Calls Tryz.prog 122 #[v] w fun e w' => e = .returned (.int .i64 (sqCheck t)) ∧ Below w.heap.size w w' := by
  obtain ⟨vb, vp, rfl, hB, hP⟩ := h
  obtain ⟨A, c, rfl, hc, hcell⟩ := ints_form hB
  obtain ⟨next, l, pts, mark⟩ := t
  dsimp only at *
  have hc' := hide hcell; clear hcell
  have hgoal : Hid (sqCheck ⟨next, l, pts, mark⟩ = if next < 0 ∨ 1099511627777 < next then 2 else if 256 < l.length then 5 else sqLoop next l) := rfl
  go_enter Tryz.func122, Tryz.ntmps122
  go_wp2
  all_goals first
    | (go_ret; refine ⟨ret_int ?_, by go_grown⟩; rw [hgoal.out]; repeat (first | rw [if_pos (by omega)] | rw [if_neg (by omega)]))
    | skip
  go_loopw [3, 4] (fun last i wr => ∃ (k : Nat) (a : Int), k ≤ l.length ∧ i = .int .i64 k ∧ last = .int .i64 a ∧ Hid (sqLoop a (l.drop k) = sqLoop next l) ∧ Below w.heap.size w wr ∧ wr.cell? ⟨w.heap.size, 1, none⟩ = some (.slice A l.length c)) (fun _ i _ => l.length - (intOf i).toNat)
  case atStart => exact ⟨0, _, Nat.zero_le _, rfl, rfl, rfl, by go_grown, by go_cell⟩
  case round =>
      obtain ⟨k, a, hk, rfl, rfl, hs, hb, hbox⟩ := hrel
      by_cases hlt : k < l.length
      · obtain ⟨b, off, rfl, hbl, hx⟩ := hc'.out k hlt
        have hx := cell_later hb hx
        have hs1 := hide (drop_cons l k hlt)
        generalize l[k] = n at *
        go_wp2
        all_goals first
          | (go_ret; refine ⟨ret_int ?_, hb⟩; rw [hgoal.out, if_neg (by omega), if_neg (by omega), ← hs.out, hs1.out, sqLoop]; repeat (first | rw [if_pos (by omega)] | rw [if_neg (by omega)]))
          | skip
        go_roundw
        case rel => exact ⟨k + 1, _, by omega, by go_num, rfl, by unfold Hid; rw [← hs.out, hs1.out, sqLoop, if_neg (by omega), if_neg (by omega)], hb, hbox⟩
        case measure => simp [intOf]; omega
      · go_wp2
        go_ret
        refine ⟨ret_int ?_, hb⟩
        rw [hgoal.out, if_neg (by omega), if_neg (by omega), ← hs.out, List.drop_eq_nil_of_le (by omega), sqLoop]

end Go.Proofs.YtimkhfaddnanhaaGreat
namespace Go.Proofs.YtimkhfaddnanhaaGreat
open Go.RowKit

theorem eok_int : EOk Tryz.prog 46 3 1 8 encI := eok_pt Tryz.underlying46 (by kernel_rfl) (by omega) (fun _ => rfl) (fun x u hu => by simp [encI] at hu; subst hu; rfl)
theorem eok_pts : EOk Tryz.prog 80 109 2 16 encP := eok_pt Tryz.underlying80 (by kernel_rfl) (by omega) (fun _ => rfl) (fun x u hu => by simp [encP] at hu; rcases hu with rfl | rfl <;> rfl)

end Go.Proofs.YtimkhfaddnanhaaGreat
namespace Go.Proofs.YtimkhfaddnanhaaGreat
open Go.RowKit

set_option maxHeartbeats 400000 in
theorem cloneI_any (l : List Int) (S : Nat → Prop) (v : Value) (w : World) (h : Sl w S 1 encI v l) (hl : l.length ≤ 1000000000) :
    Calls Tryz.prog 64 #[v] w (RetOwn 3 1 encI l w) := by
  obtain ⟨A, c, rfl, hc, _⟩ := h.form
  have hq := fun (W : World) => Lib.run_eql_slice_nil W 46 3 A l.length c 0 0 Tryz.underlying46
  have H := hide h
  cases A with
  | none =>
    have h0 : l = [] := h.none_nil
    subst h0
    clear h H hl hc
    simp only [List.length_nil, Option.isNone_none] at hq ⊢
    go_enter Tryz.func64, Tryz.ntmps64
    go_wp2
    go_ret
    exact ⟨none, 0, rfl, Own.nil_, by go_grown⟩
  | some ad =>
    clear h
    go_enter Tryz.func64, Tryz.ntmps64
    go_wp2_with (at_builtin; refine wpList_append_sl rfl _ _ rfl eok_int rfl Own.made_ rfl (H.out.alloc _) (by simp; omega) (by omega) (by simp) ?_; intro A' c' w1 ho hg _)
    go_ret
    exact ⟨A', c', rfl, ho, (Own.made_ (sz := 1) (enc := encI)).grown ((Below.refl _ _).alloc (Nat.le_refl _) _) (Nat.le_refl _) (by simp) hg⟩

set_option maxHeartbeats 400000 in
theorem cloneP_any (l : List Pt) (S : Nat → Prop) (v : Value) (w : World) (h : Sl w S 2 encP v l) (hl : l.length ≤ 1000000000) :
    Calls Tryz.prog 65 #[v] w (RetOwn 109 2 encP l w) := by
  obtain ⟨A, c, rfl, hc, _⟩ := h.form
  have hq := fun (W : World) => Lib.run_eql_slice_nil W 80 109 A l.length c 0 0 Tryz.underlying80
  have H := hide h
  cases A with
  | none =>
    have h0 : l = [] := h.none_nil
    subst h0
    clear h H hl hc
    simp only [List.length_nil, Option.isNone_none] at hq ⊢
    go_enter Tryz.func65, Tryz.ntmps65
    go_wp2
    go_ret
    exact ⟨none, 0, rfl, Own.nil_, by go_grown⟩
  | some ad =>
    clear h
    go_enter Tryz.func65, Tryz.ntmps65
    go_wp2_with (at_builtin; refine wpList_append_sl rfl _ _ rfl eok_pts rfl Own.made_ rfl (H.out.alloc _) (by simp; omega) (by omega) (by simp) ?_; intro A' c' w1 ho hg _)
    go_ret
    exact ⟨A', c', rfl, ho, (Own.made_ (sz := 2) (enc := encP)).grown ((Below.refl _ _).alloc (Nat.le_refl _) _) (Nat.le_refl _) (by simp) hg⟩

set_option maxHeartbeats 800000 in
theorem filteredP_any (l : List Pt) (p : Pt → Bool) (g : Nat) (lb : Array Value) (eg : ∀ args w, (callFunc g args).run Tryz.prog w = .ok (.enter g args) w)
    (S : Nat → Prop) (v : Value) (w : World) (h : Sl w S 2 encP v l) (hp : PredB Tryz.prog g lb (fun x => .agg (encP x).toArray) p w) (hl : l.length ≤ 1000000000) :
    Calls Tryz.prog 143 #[v, .func (.func g) #[] lb] w (RetOwn 109 2 encP (l.filter p) w) := by
  obtain ⟨A, c, rfl, hc, hcell⟩ := pts_form h
  have H := hide hcell
  have HP := hide hp
  clear hcell hp h
  go_enter Tryz.func143, Tryz.ntmps143
  go_wp2
  go_loopw [5, 10] (fun out i wr => ∃ (k : Nat) (A : Option Addr) (c : Nat), k ≤ l.length ∧ i = .int .i64 k ∧ out = .slice A ((l.take k).filter p).length c ∧ Hid (Own wr w.heap.size 109 2 encP (.slice A ((l.take k).filter p).length c) ((l.take k).filter p)) ∧ Below w.heap.size w wr) (fun _ i _ => l.length - (intOf i).toNat)
  case atStart => exact ⟨0, none, 0, Nat.zero_le _, rfl, rfl, Own.nil_, by go_grown⟩
  case round =>
    obtain ⟨k, A', c', hk, rfl, rfl, ho, hb⟩ := hrel
    by_cases hlt : k < l.length
    · obtain ⟨b, off, rfl, hbl, hx0, hx1⟩ := H.out k hlt
      have hx0 := cell_later hb hx0
      have hx1 := cell_later hb hx1
      have hsn := hide (filter_take_succ l p k hlt)
      have hlen := hide (filter_take_le l p k)
      generalize l[k] = x at *
      obtain ⟨x0, x1⟩ := x
      generalize hfl : (l.take k).filter p = fl at *
      clear hfl
      cases hq : p ⟨x0, x1⟩ with
      | false =>
        rw [hq] at hsn
        have hq' := hide hq
        clear hq
        go_wp2_with (go_at_fn g; refine (HP.out _ ⟨x0, x1⟩ ((hb.alloc hb.size _))).mono ?_; rintro e w1 ⟨rfl, hb1⟩; rw [hq'.out])
        go_roundw
        case rel =>
          have e := hsn.out
          rw [if_neg (by simp)] at e
          exact ⟨k + 1, _, _, by omega, by go_num, by rw [e], by rw [e]; exact ho.out.below (Below.next (by go_grown) hb1), Below.next (hb.alloc hb.size _) hb1⟩
        case measure => simp [intOf]; omega
      | true =>
        rw [hq] at hsn
        have hq' := hide hq
        clear hq
        go_wp2_with fail
        refine (HP.out _ ⟨x0, x1⟩ ((hb.alloc hb.size _))).mono ?_
        rintro e w1 ⟨rfl, hb1⟩
        have hbx0 := cell_later (a := ⟨wr.heap.size, 0, none⟩) (v := .int .i64 x0) hb1 (by simp)
        have hbx1 := cell_later (a := ⟨wr.heap.size, 1, none⟩) (v := .int .i64 x1) hb1 (by simp)
        rw [hq'.out]
        have hsl : Hid (Sl (w1.alloc (.cells #[.int .i64 x0, .int .i64 x1] 109)) (fun _ => True) 2 encP (.slice (some ⟨w1.heap.size, 0, none⟩) 1 1) [⟨x0, x1⟩]) := Sl.one_ (Nat.le_refl _) (by simp) trivial (by
          intro j u hu
          have hj : j < 2 := (List.getElem?_eq_some_iff.1 hu).1
          rw [World.cell?_alloc_new]
          simpa [encP] using hu)
        go_wp2_with (at_builtin; refine wpList_append_sl rfl _ _ rfl eok_pts rfl (ho.out.below (Below.next (Below.next ((Below.refl _ _).alloc (Nat.le_refl _) _) hb1) ((Below.refl _ _).alloc (Nat.le_refl _) _))) rfl hsl.out (by have := hlen.out; simp; omega) (by omega) ?hz ?_; rotate_left; intro A2 c2 w2 ho2 hg2 _)
        case hz => have h1 := hb1.size; have h2 := hb.size; rw [World.size_alloc] at h1 ⊢; omega
        have e := hsn.out
        rw [if_pos trivial] at e
        refine ⟨⟨k + 1, A2, c2, by omega, by go_num, by rw [e]; simp, by rw [e]; exact ho2, ?_⟩, by simp [intOf]; omega⟩
        have hz : w.heap.size ≤ (w1.alloc (.cells #[.int .i64 x0, .int .i64 x1] 109)).heap.size := by have h1 := hb1.size; have h2 := hb.size; rw [World.size_alloc] at h1 ⊢; omega
        exact (ho.out.below (Below.next (Below.next ((Below.refl _ _).alloc (Nat.le_refl _) _) hb1) ((Below.refl _ _).alloc (Nat.le_refl _) _))).grown (Below.next (hb.alloc hb.size _) (Below.next hb1 ((Below.refl _ _).alloc (Nat.le_refl _) _))) (Nat.le_refl _) hz hg2
    · go_wp2
      go_ret
      have e : l.take k = l := List.take_of_length_le (by omega)
      rw [e] at ho ⊢
      exact ⟨_, _, rfl, ho.out, hb⟩

end Go.Proofs.YtimkhfaddnanhaaGreat
namespace Go.Proofs.YtimkhfaddnanhaaGreat
open Go.RowKit

theorem latest1_pred (seq : Int) (g : Nat) (w : World) (hc : w.cell? ⟨g, 0, none⟩ = some (.int .i64 seq)) :
    PredB Tryz.prog 164 #[.pointer (some ⟨g, 0, none⟩)] (fun x => .agg (encP x).toArray) (fun p => decide (p.seq ≤ seq)) w := by
  intro W x hb
  have hc' := cell_later hb hc
  obtain ⟨x0, x1⟩ := x
  have hlt : g < W.heap.size := Nat.lt_of_lt_of_le (World.block_lt_of_cell? w _ hc) hb.size
  show Calls Tryz.prog 164 #[.agg #[.int .i64 x0, .int .i64 x1], .pointer (some ⟨g, 0, none⟩)] W _
  go_enter Tryz.func164, Tryz.ntmps164
  go_wp2
  go_ret
  exact ⟨rfl, by go_grown⟩

theorem add1_pred (q : Pt) (g : Nat) (w : World) (hc0 : w.cell? ⟨g, 0, none⟩ = some (.int .i64 q.seq)) (hc1 : w.cell? ⟨g, 1, none⟩ = some (.int .i64 q.time)) :
    PredB Tryz.prog 146 #[.pointer (some ⟨g, 0, none⟩)] (fun x => .agg (encP x).toArray) (fun x => implies x q) w := by
  intro W x hb
  have hc0' := cell_later hb hc0
  have hc1' := cell_later hb hc1
  obtain ⟨x0, x1⟩ := x
  obtain ⟨y0, y1⟩ := q
  have hlt : g < W.heap.size := Nat.lt_of_lt_of_le (World.block_lt_of_cell? w _ hc0) hb.size
  show Calls Tryz.prog 146 #[.agg #[.int .i64 x0, .int .i64 x1], .pointer (some ⟨g, 0, none⟩)] W fun e w' => e = .returned (.bool (implies ⟨x0, x1⟩ ⟨y0, y1⟩)) ∧ Below W.heap.size W w'
  generalize hr : implies ⟨x0, x1⟩ ⟨y0, y1⟩ = r
  have Hr := hide hr
  clear hr
  go_enter Tryz.func146, Tryz.ntmps146
  go_wp2_with fail
  refine (implies_any x0 x1 y0 y1 _).mono ?_
  rintro e w1 ⟨rfl, hb1⟩
  rw [Hr.out]
  go_wp2
  go_ret
  exact ⟨rfl, Below.next (by go_grown) hb1⟩

theorem add2_pred (q : Pt) (g : Nat) (w : World) (hc0 : w.cell? ⟨g, 0, none⟩ = some (.int .i64 q.seq)) (hc1 : w.cell? ⟨g, 1, none⟩ = some (.int .i64 q.time)) :
    PredB Tryz.prog 148 #[.pointer (some ⟨g, 0, none⟩)] (fun x => .agg (encP x).toArray) (fun x => !implies q x) w := by
  intro W x hb
  have hc0' := cell_later hb hc0
  have hc1' := cell_later hb hc1
  obtain ⟨x0, x1⟩ := x
  obtain ⟨y0, y1⟩ := q
  have hlt : g < W.heap.size := Nat.lt_of_lt_of_le (World.block_lt_of_cell? w _ hc0) hb.size
  show Calls Tryz.prog 148 #[.agg #[.int .i64 x0, .int .i64 x1], .pointer (some ⟨g, 0, none⟩)] W fun e w' => e = .returned (.bool (!implies ⟨y0, y1⟩ ⟨x0, x1⟩)) ∧ Below W.heap.size W w'
  generalize hr : implies ⟨y0, y1⟩ ⟨x0, x1⟩ = r
  have Hr := hide hr
  clear hr
  go_enter Tryz.func148, Tryz.ntmps148
  go_wp2_with fail
  refine (implies_any y0 y1 x0 x1 _).mono ?_
  rintro e w1 ⟨rfl, hb1⟩
  rw [Hr.out]
  go_wp2
  go_ret
  exact ⟨rfl, Below.next (by go_grown) hb1⟩

theorem add3_cmp (tgt : Pt) (w : World) :
    CmpB Tryz.prog 150 #[] (fun x => .agg (encP x).toArray) (.agg (encP tgt).toArray) (fun x => wrap64 (x.seq - tgt.seq)) w := by
  intro W x hb
  obtain ⟨x0, x1⟩ := x
  obtain ⟨y0, y1⟩ := tgt
  show Calls Tryz.prog 150 #[.agg #[.int .i64 x0, .int .i64 x1], .agg #[.int .i64 y0, .int .i64 y1]] W _
  go_enter Tryz.func150, Tryz.ntmps150
  go_wp2
  go_ret
  exact ⟨rfl, by go_grown⟩

theorem settle1_pred (next mark : Int) (g g' : Nat) (w : World) (hc0 : w.cell? ⟨g, 0, none⟩ = some (.int .i64 next)) (hc1 : w.cell? ⟨g', 3, none⟩ = some (.int .i64 mark)) :
    PredB Tryz.prog 144 #[.pointer (some ⟨g, 0, none⟩), .pointer (some ⟨g', 0, none⟩)] (fun x => .agg (encP x).toArray) (fun x => decide (next < x.seq) && decide (mark < x.time)) w := by
  intro W x hb
  have hc0' := cell_later hb hc0
  have hc1' := cell_later hb hc1
  obtain ⟨x0, x1⟩ := x
  have hlt : g < W.heap.size := Nat.lt_of_lt_of_le (World.block_lt_of_cell? w _ hc0) hb.size
  have hlt' : g' < W.heap.size := Nat.lt_of_lt_of_le (World.block_lt_of_cell? w _ hc1) hb.size
  show Calls Tryz.prog 144 #[.agg #[.int .i64 x0, .int .i64 x1], .pointer (some ⟨g, 0, none⟩), .pointer (some ⟨g', 0, none⟩)] W _
  go_enter Tryz.func144, Tryz.ntmps144
  go_wp2
  all_goals (go_ret; exact ⟨ret_bool (by simp <;> omega), by go_grown⟩)

set_option maxHeartbeats 800000 in
theorem latest_any (mark : Int) (l : List Pt) (seq : Int) (S : Nat → Prop) (v : Value) (w : World) (h : Pts w S v l) (hl : l.length ≤ 1000000000) :
    Calls Tryz.prog 140 #[.int .i64 mark, v, .int .i64 seq] w fun e w' => e = .returned (.int .i64 (latest mark l seq)) ∧ Below w.heap.size w w' := by
  obtain ⟨A, c, rfl, hc, _⟩ := pts_form h
  have H := hide h
  clear h
  have hgoal : Hid (latest mark l seq = (l.filter fun p => decide (p.seq ≤ seq)).foldl (fun m p => max m p.time) mark) := rfl
  generalize latest mark l seq = r at *
  have eg := Go.Proofs.enters_of (P := Tryz.prog) Tryz.func164 (by kernel_rfl) rfl
  have hfl : Hid ((l.filter fun p => decide (p.seq ≤ seq)).length ≤ 1000000000) := Nat.le_trans (List.length_filter_le _ _) hl
  go_enter Tryz.func140, Tryz.ntmps140
  go_wp2_with fail
  refine (filteredP_any l (fun p => decide (p.seq ≤ seq)) 164 _ eg S _ _ (H.out.below (by go_grown)) (latest1_pred seq w.heap.size _ (by simp)) hl).mono ?_
  rintro e w1 ⟨A1, c1, rfl, ho, hb1⟩
  generalize (l.filter fun p => decide (p.seq ≤ seq)) = m at *
  obtain ⟨A2, c2, he, hc2, hcell⟩ := pts_form (ho.sl (S := fun _ => True) eok_pts (fun _ _ => trivial))
  injection he with hA hn hc'
  subst hA; subst hc'
  have HM := hide hcell
  have hw1 : Below w.heap.size w w1 := Below.next (by go_grown) hb1
  have hml := hfl.out
  clear hcell ho hb1
  go_wp2
  go_loopw [0, 13] (fun vm i wr => ∃ (k : Nat) (a : Int), k ≤ m.length ∧ i = .int .i64 k ∧ vm = .int .i64 a ∧ Hid ((m.drop k).foldl (fun m p => max m p.time) a = r) ∧ Below w1.heap.size w1 wr) (fun _ i _ => m.length - (intOf i).toNat)
  case atStart => exact ⟨0, mark, Nat.zero_le _, rfl, rfl, hgoal.out.symm, Below.refl _ _⟩
  case round =>
    obtain ⟨k, a, hk, rfl, rfl, hs, hb⟩ := hrel
    by_cases hlt : k < m.length
    · obtain ⟨b, off, rfl, hbl, hx0, hx1⟩ := HM.out k hlt
      have hx0 := cell_later hb hx0
      have hx1 := cell_later hb hx1
      have hd := hide (drop_cons m k hlt)
      generalize m[k] = x at *
      obtain ⟨x0, x1⟩ := x
      go_wp2
      refine ⟨⟨k + 1, _, by omega, by go_num, rfl, ?_, ?_⟩, by simp [intOf]; omega⟩
      · unfold Hid
        have e : (if a < x1 then x1 else a) = max a x1 := by rw [Int.max_def]; split <;> split <;> omega
        first
          | rw [e, ← hs.out, hd.out, List.foldl_cons]
          | rw [← hs.out, hd.out, List.foldl_cons]
      · exact hb.alloc hb.size _
    · go_wp2
      go_ret
      exact ⟨ret_int (by rw [← hs.out, List.drop_eq_nil_of_le (by omega)]; rfl), Below.next hw1 hb⟩

end Go.Proofs.YtimkhfaddnanhaaGreat
namespace Go.Proofs.YtimkhfaddnanhaaGreat
open Go.RowKit

def RetTrk (t : Trk) (w0 : World) (r : Ending) (w' : World) : Prop :=
  ∃ A c A' c', r = .returned (.agg #[.int .i64 t.next, .slice A t.beyond.length c, .slice A' t.points.length c', .int .i64 t.mark]) ∧
    Own w' w0.heap.size 3 1 encI (.slice A t.beyond.length c) t.beyond ∧ Own w' w0.heap.size 109 2 encP (.slice A' t.points.length c') t.points ∧ Below w0.heap.size w0 w'

set_option maxHeartbeats 1600000 in
theorem own_any (t : Trk) (S : Nat → Prop) (v : Value) (w : World) (h : TrkV w S v t) (hl1 : t.beyond.length ≤ 1000000000) (hl2 : t.points.length ≤ 1000000000) :
    Calls Tryz.prog 142 #[v] w (RetTrk t w) := by
  obtain ⟨vb, vp, rfl, hB, hP⟩ := h
  obtain ⟨next, lb, l, mark⟩ := t
  dsimp only at *
  obtain ⟨A, c, rfl, hc, hcell⟩ := pts_form hP
  obtain ⟨Ab, cb, rfl, hcb, _⟩ := ints_form hB
  have HB := hide hB
  have HP := hide hP
  clear hcell hB hP
  go_enter Tryz.func142, Tryz.ntmps142
  go_wp2_with fail
  have hT0 : Hid (Blk (((w.alloc (.cells #[.int .i64 next, .slice Ab lb.length cb, .slice A l.length c, .int .i64 mark] 82)).alloc (.cells #[.int .i64 0, .slice none 0 0, .slice none 0 0, .int .i64 0] 82)).drew) w.heap.size 82 #[.int .i64 next, .slice Ab lb.length cb, .slice A l.length c, .int .i64 mark]) := Blk.alloc (Blk.new w _ _) _
  have hR0 : Hid (Blk (((w.alloc (.cells #[.int .i64 next, .slice Ab lb.length cb, .slice A l.length c, .int .i64 mark] 82)).alloc (.cells #[.int .i64 0, .slice none 0 0, .slice none 0 0, .int .i64 0] 82)).drew) (w.heap.size + 1) 82 #[.int .i64 0, .slice none 0 0, .slice none 0 0, .int .i64 0]) := by
    have := Blk.new (w.alloc (.cells #[.int .i64 next, .slice Ab lb.length cb, .slice A l.length c, .int .i64 mark] 82)) 82 #[.int .i64 0, .slice none 0 0, .slice none 0 0, .int .i64 0]
    rw [World.size_alloc] at this
    exact this
  go_region_with (first
    | (go_at_call 64; refine (cloneI_any lb S _ _ (HB.out.below ?_) hl1).mono ?_; go_grown; rintro e w1 ⟨A1, c1, rfl, ho1, hb1⟩; have hw1 : Below w.heap.size w w1 := Below.next (by go_grown) hb1; have hT1 : Hid (Blk w1 w.heap.size 82 #[.int .i64 next, .slice Ab lb.length cb, .slice A l.length c, .int .i64 mark]) := Blk.below (by first | exact hT1.out | exact hT2.out | exact hT0.out) hb1; have hR1 : Hid (Blk w1 (w.heap.size + 1) 82 #[.int .i64 0, .slice none 0 0, .slice none 0 0, .int .i64 0]) := Blk.below (by first | exact hR1.out | exact hR2.out | exact hR0.out) hb1; have t10 := hT1.out.cell_some 0 rfl; have t11 := hT1.out.cell_some 1 rfl; have t12 := hT1.out.cell_some 2 rfl; have t13 := hT1.out.cell_some 3 rfl; have tf11 := hT1.out.frozen 1; have tf12 := hT1.out.frozen 2)
    | (go_at_call 65; refine (cloneP_any l S _ _ (HP.out.below ?_) hl2).mono ?_; go_grown; rintro e w2 ⟨A2, c2, rfl, ho2, hb2⟩; have hw2 : Below w.heap.size w w2 := Below.next (by go_grown) hb2; have hT2 : Hid (Blk w2 w.heap.size 82 #[.int .i64 next, .slice Ab lb.length cb, .slice A l.length c, .int .i64 mark]) := Blk.below (by first | exact hT1.out | exact hT2.out | exact hT0.out) hb2; have hR2 : Hid (Blk w2 (w.heap.size + 1) 82 #[.int .i64 0, .slice none 0 0, .slice none 0 0, .int .i64 0]) := Blk.below (by first | exact hR1.out | exact hR2.out | exact hR0.out) hb2; have t20 := hT2.out.cell_some 0 rfl; have t21 := hT2.out.cell_some 1 rfl; have t22 := hT2.out.cell_some 2 rfl; have t23 := hT2.out.cell_some 3 rfl; have tf21 := hT2.out.frozen 1; have tf22 := hT2.out.frozen 2))
  all_goals
    have l1 := hR1.out.lt
    have l2 := hR2.out.lt
    have r10 := hR1.out.cell_some 0 rfl
    have r11 := hR1.out.cell_some 1 rfl
    have r12 := hR1.out.cell_some 2 rfl
    have r13 := hR1.out.cell_some 3 rfl
    have r20 := hR2.out.cell_some 0 rfl
    have r21 := hR2.out.cell_some 1 rfl
    have r22 := hR2.out.cell_some 2 rfl
    have r23 := hR2.out.cell_some 3 rfl
    have f10 := hR1.out.frozen 0
    have f11 := hR1.out.frozen 1
    have f12 := hR1.out.frozen 2
    have f13 := hR1.out.frozen 3
    have f20 := hR2.out.frozen 0
    have f21 := hR2.out.frozen 1
    have f22 := hR2.out.frozen 2
    have f23 := hR2.out.frozen 3
    go_wp2
    refine bodyPost_ret (v := .agg #[.int .i64 next, .slice A1 lb.length c1, .slice A2 l.length c2, .int .i64 mark]) (by simp [results, Tryz.results142, go_sem, r10, r11, r12, r13, r20, r21, r22, r23]) rfl ⟨A1, c1, A2, c2, rfl, ?_, ?_, ?_⟩
    · refine Own.le (base := w.heap.size + 2) ?_ (by omega)
      iterate 6 (refine Own.setCell_lt ?_ (by simp <;> omega) _)
      first
        | exact (ho1.below hb2).le (by first | omega | (simp; done) | (simp; omega))
        | exact ho1.le (by first | omega | (simp; done) | (simp; omega))
    · refine Own.le (base := w.heap.size + 2) ?_ (by omega)
      iterate 6 (refine Own.setCell_lt ?_ (by simp <;> omega) _)
      first
        | exact (ho2.below hb1).le (by first | omega | (simp; done) | (simp; omega))
        | exact ho2.le (by first | omega | (simp; done) | (simp; omega))
    · iterate 6 (refine Below.setCell ?_ (by simp <;> omega) _)
      assumption

end Go.Proofs.YtimkhfaddnanhaaGreat
namespace Go.Proofs.YtimkhfaddnanhaaGreat
open Go.RowKit

set_option maxHeartbeats 400000 in
theorem rcontains_any (t : Trk) (seq : Int) (S : Nat → Prop) (v : Value) (w : World) (h : TrkV w S v t) (hl : t.beyond.length ≤ 1000000000) :
    Calls Tryz.prog 107 #[v, .int .i64 seq] w fun e w' => e = .returned (.bool (hasB t seq)) ∧ Below w.heap.size w w' := by
  obtain ⟨vb, vp, rfl, hB, hP⟩ := h
  obtain ⟨A, c, rfl, hc, hcell⟩ := ints_form hB
  obtain ⟨next, l, pts, mark⟩ := t
  dsimp only at *
  have H := hide hcell
  clear hcell hB hP
  have hgoal : Hid (hasB ⟨next, l, pts, mark⟩ seq = if seq < next then decide (0 ≤ seq) else l.contains seq) := rfl
  generalize hasB ⟨next, l, pts, mark⟩ seq = r at *
  by_cases hn : seq < next
  · have hr := hide (hgoal.out.trans (if_pos hn))
    clear hgoal
    go_enter Tryz.func107, Tryz.ntmps107
    go_wp2
    go_ret
    exact ⟨ret_bool hr.out.symm, by go_grown⟩
  · go_enter Tryz.func107, Tryz.ntmps107
    go_wp2
    go_loopw [5] (fun i wr => ∃ k : Nat, k ≤ l.length ∧ i = .int .i64 k ∧ Hid ((l.drop k).contains seq = r) ∧ Below w.heap.size w wr ∧ wr.cell? ⟨w.heap.size, 1, none⟩ = some (.slice A l.length c)) (fun i _ => l.length - (intOf i).toNat)
    case atStart => exact ⟨0, Nat.zero_le _, rfl, by unfold Hid; rw [hgoal.out, if_neg (by omega)]; rfl, by go_grown, by simp⟩
    case round =>
      obtain ⟨k, hk, rfl, hs, hb, hbox⟩ := hrel
      by_cases hlt : k < l.length
      · obtain ⟨b, off, rfl, hbl, hx⟩ := H.out k hlt
        have hx := cell_later hb hx
        have hd := hide (drop_cons l k hlt)
        generalize l[k] = y at *
        by_cases hxy : y = seq
        · have hne : (y == seq) = true := by simp [hxy]
          have hxy' := hide hxy; clear hxy
          go_wp2
          go_ret
          exact ⟨ret_bool (by rw [← hs.out, hd.out]; simp [hxy'.out]), hb⟩
        · have hne : (y == seq) = false := by simp [hxy]
          have hxy' := hide hxy; clear hxy
          go_wp2
          go_roundw
          case rel => exact ⟨k + 1, by omega, by go_num, by unfold Hid; rw [← hs.out, hd.out]; simp [Ne.symm hxy'.out], hb, hbox⟩
          case measure => simp [intOf]; omega
      · go_wp2
        go_ret
        exact ⟨ret_bool (by rw [← hs.out, List.drop_eq_nil_of_le (by omega)]; simp), hb⟩

set_option maxHeartbeats 800000 in
theorem asc_any (t : Trk) (a : Pt) (S : Nat → Prop) (v : Value) (w : World) (h : TrkV w S v t) :
    Calls Tryz.prog 111 #[v, .agg #[.int .i64 a.seq, .int .i64 a.time]] w fun e w' => e = .returned (.int .i64 (asc t a)) ∧ Below w.heap.size w w' := by
  obtain ⟨vb, vp, rfl, hB, hP⟩ := h
  obtain ⟨A, c, rfl, hc, hcell⟩ := pts_form hP
  obtain ⟨Ab, cb, rfl, _, _⟩ := ints_form hB
  have H := hide hcell
  have HB := hide hB
  have HP := hide hP
  clear hcell hB hP
  obtain ⟨next, lb, l, mark⟩ := t
  obtain ⟨a0, a1⟩ := a
  dsimp only at *
  have hgoal : Hid (asc ⟨next, lb, l, mark⟩ ⟨a0, a1⟩ = if sqCheck ⟨next, lb, l, mark⟩ ≠ 0 then sqCheck ⟨next, lb, l, mark⟩ else if mark < -1 ∨ 1099511627776 < mark then 2 else if 256 < l.length then 5 else ascLoop ⟨a0, a1⟩ l) := rfl
  generalize hq : sqCheck ⟨next, lb, l, mark⟩ = q at *
  have Hq := hide hq
  clear hq
  by_cases hq0 : q = 0
  · have hne : (q != 0) = false := by simp [hq0]
    have hq0' := hide hq0
    clear hq0
    go_enter Tryz.func111, Tryz.ntmps111
    go_wp2_with fail
    refine (sqCheck_any ⟨next, lb, l, mark⟩ S _ _ ⟨_, _, rfl, HB.out.below (by go_grown), HP.out.below (by go_grown)⟩).mono ?_
    rintro e w1 ⟨rfl, hb1⟩
    rw [Hq.out]
    have hw1 : Below w.heap.size w w1 := Below.next (by go_grown) hb1
    have ht2 := cell_later (a := ⟨w.heap.size, 2, none⟩) (v := .slice A l.length c) hb1 (by simp)
    have ht3 := cell_later (a := ⟨w.heap.size, 3, none⟩) (v := .int .i64 mark) hb1 (by simp)
    have hL : Hid (Blk w1 (w.heap.size + 1) 109 #[.int .i64 a0, .int .i64 a1]) := Blk.below (by simpa using Blk.new (w.alloc _) 109 #[.int .i64 a0, .int .i64 a1]) hb1
    clear hb1
    go_wp2
    all_goals first
      | (go_ret; refine ⟨ret_int ?_, by go_grown⟩; rw [hgoal.out, if_neg (by simp [hq0'.out])]; repeat (first | rw [if_pos (by omega)] | rw [if_neg (by omega)]))
      | skip
    go_loopw [30] (fun i wr => ∃ (k : Nat) (b0 b1 : Int), k ≤ l.length ∧ i = .int .i64 k ∧ Hid (ascLoop ⟨b0, b1⟩ (l.drop k) = ascLoop ⟨a0, a1⟩ l) ∧ Hid (Blk wr (w.heap.size + 1) 109 #[.int .i64 b0, .int .i64 b1]) ∧ Below w.heap.size w wr) (fun i _ => l.length - (intOf i).toNat)
    case atStart => exact ⟨0, _, _, Nat.zero_le _, rfl, rfl, hL, hw1⟩
    case round =>
      clear hL ht2 ht3
      obtain ⟨k, b0, b1, hk, rfl, hs, hL, hb⟩ := hrel
      by_cases hlt : k < l.length
      · obtain ⟨b, off, rfl, hbl, hx0, hx1⟩ := H.out k hlt
        have hx0 := cell_later hb hx0
        have hx1 := cell_later hb hx1
        have hd := hide (drop_cons l k hlt)
        generalize l[k] = x at *
        obtain ⟨x0, x1⟩ := x
        cases hv : ptValid ⟨x0, x1⟩ with
        | false =>
          have hv' := hide hv
          clear hv
          go_wp2_with (go_at_call 126; refine (valid_any x0 x1 _).mono ?_; rintro e w2 ⟨rfl, hb2⟩; rw [hv'.out])
          go_ret
          exact ⟨ret_int (by rw [hgoal.out, if_neg (by simp [hq0'.out]), if_neg (by omega), if_neg (by omega), ← hs.out, hd.out, ascLoop, if_pos hv'.out]), Below.next (hb.alloc hb.size _) hb2⟩
        | true =>
          have hv' := hide hv
          clear hv
          go_wp2_with fail
          refine (valid_any x0 x1 _).mono ?_
          rintro e w2 ⟨rfl, hb2⟩
          rw [hv'.out]
          have hw2 : Below w.heap.size w w2 := Below.next (hb.alloc hb.size _) hb2
          have hp0 := cell_later (a := ⟨wr.heap.size, 0, none⟩) (v := .int .i64 x0) hb2 (by simp)
          have hp1 := cell_later (a := ⟨wr.heap.size, 1, none⟩) (v := .int .i64 x1) hb2 (by simp)
          have hL2 : Hid (Blk w2 (w.heap.size + 1) 109 #[.int .i64 b0, .int .i64 b1]) := (hL.out.alloc _).below hb2
          have hl0 := hL2.out.cell_some 0 rfl
          have hl1 := hL2.out.cell_some 1 rfl
          have hf0 := hL2.out.frozen 0
          have hf1 := hL2.out.frozen 1
          clear hb2
          go_wp2
          all_goals first
            | (go_ret; exact ⟨ret_int (by rw [hgoal.out, if_neg (by simp [hq0'.out]), if_neg (by omega), if_neg (by omega), ← hs.out, hd.out, ascLoop, if_neg (by simp [hv'.out]), if_pos (by simp only; omega)]), hw2⟩)
            | skip
          go_roundw
          case rel => exact ⟨k + 1, x0, x1, by omega, by go_num, by unfold Hid; rw [← hs.out, hd.out, ascLoop, if_neg (by simp [hv'.out]), if_neg (by simp only; omega)], (hL2.out.set 0 _).set 1 _, (hw2.setCell (by simp) _).setCell (by simp) _⟩
          case measure => simp [intOf]; omega
      · go_wp2
        go_ret
        exact ⟨ret_int (by rw [hgoal.out, if_neg (by simp [hq0'.out]), if_neg (by omega), if_neg (by omega), ← hs.out, List.drop_eq_nil_of_le (by omega), ascLoop]), hb⟩
  · have hne : (q != 0) = true := by simp [hq0]
    have hr := hide (hgoal.out.trans (if_pos hq0))
    clear hgoal hq0
    go_enter Tryz.func111, Tryz.ntmps111
    go_wp2_with fail
    refine (sqCheck_any ⟨next, lb, l, mark⟩ S _ _ ⟨_, _, rfl, HB.out.below (by go_grown), HP.out.below (by go_grown)⟩).mono ?_
    rintro e w1 ⟨rfl, hb1⟩
    rw [Hq.out]
    go_wp2
    go_ret
    exact ⟨ret_int hr.out.symm, Below.next (by go_grown) hb1⟩

set_option maxHeartbeats 400000 in
theorem puCheck_any (t : Trk) (S : Nat → Prop) (v : Value) (w : World) (h : TrkV w S v t) :
    Calls Tryz.prog 93 #[v] w fun e w' => e = .returned (.int .i64 (puCheck t)) ∧ Below w.heap.size w w' := by
  obtain ⟨vb, vp, rfl, hB, hP⟩ := h
  obtain ⟨A, c, rfl, _, _⟩ := pts_form hP
  obtain ⟨Ab, cb, rfl, _, _⟩ := ints_form hB
  have HB := hide hB
  have HP := hide hP
  clear hB hP
  obtain ⟨next, lb, l, mark⟩ := t
  dsimp only at *
  have hr : Hid (asc ⟨next, lb, l, mark⟩ ⟨next, mark⟩ = puCheck ⟨next, lb, l, mark⟩) := rfl
  generalize puCheck ⟨next, lb, l, mark⟩ = r at *
  go_enter Tryz.func93, Tryz.ntmps93
  go_wp2_with fail
  refine (asc_any ⟨next, lb, l, mark⟩ ⟨next, mark⟩ S _ _ ⟨_, _, rfl, HB.out.below (by go_grown), HP.out.below (by go_grown)⟩).mono ?_
  rintro e w1 ⟨rfl, hb1⟩
  rw [hr.out]
  go_wp2
  go_ret
  exact ⟨rfl, Below.next (by go_grown) hb1⟩

end Go.Proofs.YtimkhfaddnanhaaGreat
