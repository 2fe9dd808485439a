/- Plain laws of layer 35: the reference's Add is the program's; what a punctuation forbids; several punctuations in any order. slices.Reverse at structs, in its place: a contract of the abstract walk out of the kit's. What some functions compute, over plain values. Printed by a program of mine (gen_fun.lean). Chapter 36, plain: the law Commutes. Layer 5, plain: Find, Slice, Inversions. Chapter 37, plain: sources that keep their promises; Settles and Ends. Contracts of the library, out of the shelf of the kit, at this program (written by the kit's lay-plain). Layer 37: slices.Reverse at messages. Chapter 37: the contracts of the seven laws. -/
import Derived.Test.YtimkhfaddnanhaaGreatK09
import Derived.Test.YtimkhfaddnanhaaGreatK08
import Derived.Shelf.SlicesQ.Reverse
import Derived.Test.YtimkhfaddnanhaaGreatK10
import Derived.Test.YtimkhfaddnanhaaGreatK11
import Derived.Test.YtimkhfaddnanhaaGreatK12
import Derived.Test.YtimkhfaddnanhaaGreatK13
import Derived.Test.YtimkhfaddnanhaaGreatProg
import Derived.Test.YtimkhfaddnanhaaGreatK15
import Derived.Test.YtimkhfaddnanhaaGreatK16
set_option linter.unusedVariables false
set_option linter.unusedSimpArgs false
set_option maxRecDepth 100000
set_option maxHeartbeats 8000000
namespace Go.Proofs.YtimkhfaddnanhaaGreat
open Go.RowKit

theorem sorted_ext (l m : List Pt) (hl : l.Pairwise Asc2) (hm : m.Pairwise Asc2) (h : ∀ x, x ∈ l ↔ x ∈ m) : l = m := by
  induction l generalizing m with
  | nil =>
    cases m with
    | nil => rfl
    | cons y s => exact absurd ((h y).2 (by simp)) (by simp)
  | cons x r ih =>
    cases m with
    | nil => exact absurd ((h x).1 (by simp)) (by simp)
    | cons y s =>
      have hx := List.pairwise_cons.1 hl
      have hy := List.pairwise_cons.1 hm
      have e : x = y := by
        rcases List.mem_cons.1 ((h x).1 (by simp)) with e | e
        · exact e
        · rcases List.mem_cons.1 ((h y).2 (by simp)) with e' | e'
          · exact e'.symm
          · have a := (hx.1 y e').1
            have b := (hy.1 x e).1
            omega
      subst e
      rw [ih s hx.2 hy.2 fun z => ?_]
      constructor
      · intro hz
        rcases List.mem_cons.1 ((h z).1 (by simp [hz])) with e | e
        · subst e; have := (hx.1 z hz).1; omega
        · exact e
      · intro hz
        rcases List.mem_cons.1 ((h z).2 (by simp [hz])) with e | e
        · subst e; have := (hy.1 z hz).1; omega
        · exact e
theorem point_iff (t : Trk) (ht : TOk t) (p : Pt) : p ∈ t.points ↔ t.next < p.seq ∧ Forb t p.seq p.time ∧ ¬ Forb t p.seq (p.time + 1) ∧ ¬ Forb t (p.seq - 1) p.time := by
  have hpw := (List.pairwise_cons.1 ht.asc).2
  have hgt : ∀ x ∈ t.points, t.next < x.seq ∧ t.mark < x.time := (List.pairwise_cons.1 ht.asc).1
  have hcmp : ∀ x ∈ t.points, ∀ y ∈ t.points, x.seq < y.seq → x.time < y.time := fun x hx y hy hlt => by
    obtain ⟨i, hi, rfl⟩ := List.mem_iff_getElem.1 hx
    obtain ⟨j, hj, rfl⟩ := List.mem_iff_getElem.1 hy
    have hpi := List.pairwise_iff_getElem.1 hpw
    rcases Nat.lt_trichotomy i j with h | h | h
    · exact (hpi i j hi hj h).2
    · subst h; omega
    · have := (hpi j i hj hi h).1; omega
  have hcm2 : ∀ x ∈ t.points, ∀ y ∈ t.points, x.seq ≤ y.seq → x.time ≤ y.time := fun x hx y hy hle => by
    obtain ⟨i, hi, rfl⟩ := List.mem_iff_getElem.1 hx
    obtain ⟨j, hj, rfl⟩ := List.mem_iff_getElem.1 hy
    have hpi := List.pairwise_iff_getElem.1 hpw
    rcases Nat.lt_trichotomy i j with h | h | h
    · have := (hpi i j hi hj h).2; omega
    · subst h; omega
    · have := (hpi j i hj hi h).1; omega
  constructor
  · intro hp
    have hg := hgt p hp
    refine ⟨hg.1, Or.inr ⟨p, hp, Int.le_refl _, Int.le_refl _⟩, ?_, ?_⟩
    · rintro (h | ⟨x, hx, h1, h2⟩)
      · omega
      · have := hcm2 x hx p hp h1; omega
    · rintro (h | ⟨x, hx, h1, h2⟩)
      · omega
      · have := hcmp x hx p hp (by omega); omega
  · rintro ⟨h0, h1, h2, h3⟩
    rcases h1 with h | ⟨x, hx, ha, hb⟩
    · exact absurd (Or.inl h) h3
    · have e1 : x.seq = p.seq := by
        rcases Int.lt_or_le x.seq p.seq with h | h
        · exact absurd (Or.inr ⟨x, hx, by omega, hb⟩) h3
        · omega
      have e2 : x.time = p.time := by
        rcases Int.lt_or_le p.time x.time with h | h
        · exact absurd (Or.inr ⟨x, hx, ha, by omega⟩) h2
        · omega
      have : x = p := by
        cases x; cases p; simp_all
      exact this ▸ hx
theorem tok_ext (t u : Trk) (ht : TOk t) (hu : TOk u) (hn : t.next = u.next) (hb : t.beyond = u.beyond) (hf : ∀ s τ, t.next ≤ s → (Forb t s τ ↔ Forb u s τ)) : t = u := by
  have hm : ∀ (t u : Trk), TOk t → t.next = u.next → (∀ s τ, t.next ≤ s → (Forb u s τ → Forb t s τ)) → u.mark ≤ t.mark := fun t u ht hn hf => by
    rcases hf t.next u.mark (Int.le_refl _) (Or.inl (Int.le_refl _)) with h | ⟨x, hx, h1, _⟩
    · exact h
    · have := ((List.pairwise_cons.1 ht.asc).1 x hx).1
      simp only at this
      omega
  have hmark : t.mark = u.mark := Int.le_antisymm (hm u t hu hn.symm fun s τ hs => (hf s τ (by omega)).1) (hm t u ht hn fun s τ hs => (hf s τ hs).2)
  have hpts : t.points = u.points := sorted_ext _ _ (List.pairwise_cons.1 ht.asc).2 (List.pairwise_cons.1 hu.asc).2 fun x => by
    rw [point_iff t ht x, point_iff u hu x, ← hn]
    constructor
    · rintro ⟨h0, h1, h2, h3⟩
      exact ⟨h0, (hf _ _ (by omega)).1 h1, fun h => h2 ((hf _ _ (by omega)).2 h), fun h => h3 ((hf _ _ (by omega)).2 h)⟩
    · rintro ⟨h0, h1, h2, h3⟩
      exact ⟨h0, (hf _ _ (by omega)).2 h1, fun h => h2 ((hf _ _ (by omega)).1 h), fun h => h3 ((hf _ _ (by omega)).1 h)⟩
  cases t; cases u; simp_all

end Go.Proofs.YtimkhfaddnanhaaGreat
namespace Go.Proofs.YtimkhfaddnanhaaGreat
open Go.RowKit
open Go.Sort (HoldsK flatK putRowK putRow putCells mapBlock onCells size_flatK get_flatK)

section
variable {T : Type}
def F_rev (n : Nat) (l : List T) : Option (List T) := if l.length ≤ 1000000000 then some l.reverse else none
theorem rev_gen {E : Env} {f ty sz : Nat} {encT : T → AV} {n : Nat} {l l' : List T} (he : Enters E f) (hsz : 0 < sz)
    (hagg : ∀ x, ∃ cs, encT x = .agg cs ∧ cs.length = sz)
    (hrev : ∀ (α : Type) [Inhabited α] (enc : α → List Value) (hk : ∀ x, (enc x).length = sz) (h1 : ∀ x, ∀ v ∈ enc x, v.oneCell' = true) (blk off cap : Nat) (d : Array α) (w : World)
      (hH : HoldsK enc sz w blk off d) (hsz : d.size ≤ 9223372036854775807),
      Calls E.P f #[.slice (some ⟨blk, off, none⟩) d.size cap] w fun e w' => e = .returned (.tuple #[]) ∧ ∃ n, w' = putRowK enc sz (Go.Sort.ahead w n) blk off d.reverse)
    (hnone : ∀ (p : Option Addr) (cap : Nat) (w : World), Calls E.P f #[.slice p 0 cap] w fun e w' => e = .returned (.tuple #[]) ∧ w' = w)
    (hF : F_rev n l = some l') :
    ConC true E f [.row 0] ty sz (l.map encT) ty sz (l'.map encT) (.tup []) := by
  unfold F_rev at hF
  split at hF
  rotate_left
  · cases hF
  rename_i hll
  injection hF with hF
  refine ⟨he, rfl, fun S w0 w vs v us hbw hown hlen hre hone hnS hvs hargs => ?_⟩
  -- the arguments
  have ha := hargs (fun i => if i = 0 then some (some (v.ownBlock, v)) else none) rfl
  have h0 := (ha 0 (by simp)).row_inv (g := v.ownBlock) (s := v) rfl
  have evs : vs = #[v] := by
    have := getD1 hvs
    rw [h0] at this
    exact this
  rw [evs]
  clear ha h0 evs
  have hlm : (l.map encT).length = l.length := List.length_map _
  have hl'len : l'.length = l.length := by rw [← hF]; simp
  -- no element
  have empty : l = [] → Calls E.P f #[v] w fun e w' => ∃ u v' us', e = .returned u ∧ w.grownBy w' v.ownBlock ∧ w'.ownsRow w0.heap.size ty sz v' (l'.map encT).length us' ∧ (true = true → v' = v) ∧ (∀ b, v'.ownBlock = some b → v.ownBlock = some b ∨ w.heap.size ≤ b) ∧ (∀ k (hk : k < (l'.map encT).length), ((l'.map encT)[k]).cells.length = sz) ∧
      (∀ k (hk : k < (l'.map encT).length) j (hj : j < ((l'.map encT)[k]).cells.length), Rep w' (fun b => (S b ∨ w.heap.size ≤ b) ∧ v'.ownBlock ≠ some b) G0 (((l'.map encT)[k]).cells[j]) (us'.getD (k * sz + j) undef)) ∧ (∀ u ∈ us', u.oneCell' = true) ∧
      ∀ γ' : Gam, γ' 0 = some (some (v'.ownBlock, v')) → Rep w' (fun b => (S b ∨ w.heap.size ≤ b) ∧ v'.ownBlock ≠ some b) γ' (.tup []) u := fun h0 => by
    have hl0 : l' = [] := by rw [← hF, h0]; rfl
    subst hl0
    subst h0
    have hv : ∃ p cap, v = .slice p 0 cap := by
      rcases hown.2 with ⟨hv, _⟩ | ⟨b, cap, cur, hv, _⟩
      · exact ⟨none, 0, hv⟩
      · exact ⟨_, cap, hv⟩
    obtain ⟨p, cap, hv⟩ := hv
    have hcall := hnone p cap w
    rw [← hv] at hcall
    refine hcall.mono ?_
    rintro e w' ⟨rfl, rfl⟩
    exact ⟨_, v, us, rfl, World.grownBy.refl _ _, hown, fun _ => rfl, fun b hb => Or.inl hb, fun k hk => absurd hk (by simp), fun k hk => absurd hk (by simp), hone, fun γ' _ => .tup #[] rfl (fun i hi => absurd hi (by simp))⟩
  by_cases hl0 : l = []
  · exact empty hl0
  have hlp : 0 < l.length := List.length_pos_iff.2 hl0
  rcases hown.2 with ⟨_, h0⟩ | ⟨blk, cap, cur, hv, hbb, hh, hn, hm, hs, ht⟩
  · omega
  have hblk : blk < w.heap.size := (Array.getElem?_eq_some_iff.1 hh).1
  have hob : v.ownBlock = some blk := by rw [hv]; rfl
  have husl : us.length = l.length * sz := by rw [hown.1, hlm]
  have hin : ∀ k j, k < l.length → j < sz → k * sz + j < l.length * sz := fun k j hk hj => by
    have : (k + 1) * sz ≤ l.length * sz := Nat.mul_le_mul_right _ hk
    rw [Nat.succ_mul] at this
    omega
  -- the elements
  have hel : ∀ i (hi : i < l.length), ((us.drop (i * sz)).take sz).length = sz ∧ (∀ v ∈ (us.drop (i * sz)).take sz, v.oneCell' = true) ∧ Rep w S G0 (encT l[i]) (.agg ((us.drop (i * sz)).take sz).toArray) := fun i hi => by
    have hlen1 : ((us.drop (i * sz)).take sz).length = sz := by
      rw [List.length_take, List.length_drop]
      have : (i + 1) * sz ≤ l.length * sz := Nat.mul_le_mul_right _ hi
      rw [Nat.succ_mul] at this
      omega
    have hone1 : ∀ v ∈ (us.drop (i * sz)).take sz, v.oneCell' = true := fun v hv => hone v (List.mem_of_mem_drop (List.mem_of_mem_take hv))
    refine ⟨hlen1, hone1, ?_⟩
    obtain ⟨cs, hcs, hcl⟩ := hagg l[i]
    rw [hcs]
    have hget : ∀ j, j < sz → ((us.drop (i * sz)).take sz).toArray.getD j undef = us.getD (i * sz + j) undef := fun j hj => by
      rw [Array.getD_eq_getD_getElem?, List.getElem?_toArray, List.getElem?_take_of_lt hj, List.getElem?_drop, List.getD_eq_getElem?_getD]
    refine .agg _ (by simpa [hcl] using hlen1) (fun j hj => ?_) (fun j hj => ?_)
    · rw [hget j (by omega)]
      have hil : i < (l.map encT).length := by rw [hlm]; exact hi
      have e : (l.map encT)[i] = .agg cs := by rw [List.getElem_map]; exact hcs
      have := hre i hil j (by rw [e]; exact hj)
      simp only [e, AV.cells] at this
      exact this
    · have hj' : j < ((us.drop (i * sz)).take sz).length := by simpa using hj
      rw [Array.getD_eq_getD_getElem?, List.getElem?_toArray, List.getElem?_eq_getElem hj', Option.getD_some]
      exact hone1 _ (List.getElem_mem hj')
  let A := SEl w S sz encT
  let enc : A → List Value := fun p => p.1.1
  let d : Array A := (List.ofFn fun i : Fin l.length => (⟨((us.drop (i.1 * sz)).take sz, l[i.1]), hel i.1 i.2⟩ : A)).toArray
  haveI : Inhabited A := ⟨⟨((us.drop (0 * sz)).take sz, l[0]), hel 0 hlp⟩⟩
  have hds : d.size = l.length := by simp [d]
  have hdi : ∀ i (hi : i < l.length), d[i]! = ⟨((us.drop (i * sz)).take sz, l[i]), hel i hi⟩ := fun i hi => by
    rw [getElem!_pos d i (by rw [hds]; exact hi)]
    simp [d]
  have hk : ∀ x : A, (enc x).length = sz := fun x => x.2.1
  have hH : HoldsK enc sz w blk 0 d := fun j hj => by
    have hj' : j < l.length * sz := by rw [size_flatK, hds] at hj; exact hj
    have hq : j / sz < l.length := Nat.div_lt_of_lt_mul (by rwa [Nat.mul_comm] at hj')
    have hm := Nat.mod_lt j hsz
    have e := flat_get enc sz hk d (j / sz) (j % sz) (by rw [hds]; exact hq) hm
    have ej : j / sz * sz + j % sz = j := by rw [Nat.mul_comm]; exact Nat.div_add_mod j sz
    rw [ej] at e
    have ef : (flatK enc sz d)[j]! = us.getD j undef := by
      rw [getElem!_pos (flatK enc sz d) j hj]
      have h1 : (flatK enc sz d).toList.getD j undef = (flatK enc sz d)[j] := by
        rw [List.getD_eq_getElem?_getD, Array.getElem?_toList, Array.getElem?_eq_getElem hj]; rfl
      rw [← h1, e, hdi _ hq]
      show ((us.drop (j / sz * sz)).take sz).getD (j % sz) undef = us.getD j undef
      rw [List.getD_eq_getElem?_getD, List.getElem?_take_of_lt hm, List.getElem?_drop, ej, ← List.getD_eq_getElem?_getD]
    rw [ef, Nat.zero_add]
    refine ⟨row_cells hown hob j (by rw [hlm]; exact hj'), ?_⟩
    simp [World.frozen?, hh]
  have hcall := hrev A enc hk (fun x => x.2.2.1) blk 0 cap d w hH (by rw [hds]; omega)
  have ev : v = .slice (some ⟨blk, 0, none⟩) d.size cap := by rw [hv, hlm, hds]
  rw [← ev] at hcall
  refine hcall.mono ?_
  rintro e w' ⟨rfl, m, hw'⟩
  obtain ⟨d', hd'⟩ : ∃ d', d.reverse = d' := ⟨_, rfl⟩
  rw [hd'] at hw'
  have hd's : d'.size = l.length := by rw [← hd', Array.size_reverse]; exact hds
  -- what lies there now
  have hdl : d.toList.map (fun p => p.1.2) = l := by
    simp only [d, List.map_ofFn]
    apply List.ext_getElem
    · simp
    · intro i h1 h2; simp
  have hfin : d'.toList.map (fun p => p.1.2) = l' := by rw [← hF, ← hd', Array.toList_reverse, List.map_reverse, hdl]
  have hl'k : ∀ k (hk' : k < l'.length), ∃ h : k < d'.size, l'[k] = d'[k].1.2 := fun k hk' => by
    have h : k < d'.size := by omega
    refine ⟨h, ?_⟩
    have : l'[k] = (d'.toList.map (fun p => p.1.2))[k]'(by simpa using h) := by simp only [hfin]
    rw [this]
    simp
  have hgb : w.grownBy w' v.ownBlock := by
    rw [hob, hw']
    refine ⟨rfl, rfl, rfl, by simp [putRowK, putRow, mapBlock, Go.Sort.ahead], fun k hk hne => ?_⟩
    have : blk ≠ k := fun e => hne (by rw [e])
    simp [putRowK, putRow, mapBlock, Go.Sort.ahead, Array.getElem?_modify, this]
  have hFs : (flatK enc sz d').size = l.length * sz := by rw [size_flatK, hd's]
  have hcap : l.length * sz ≤ cur.size := by
    rw [hs]; rw [hlm] at hn; exact Nat.mul_le_mul_right _ hn
  have hheap : w'.heap[blk]? = some (.cells (putCells id 0 (flatK enc sz d') cur) ty (0, 0)) := by
    rw [hw']
    simp [putRowK, putRow, mapBlock, Go.Sort.ahead, Array.getElem?_modify, hh, onCells]
  have hrow : ∀ k j, k < l.length → j < sz → (flatK enc sz d').toList.getD (k * sz + j) undef = (enc d'[k]!).getD j undef := fun k j hk' hj => flat_get enc sz hk d' k j (by rw [hd's]; exact hk') hj
  refine ⟨_, v, (flatK enc sz d').toList, rfl, hgb, ⟨by rw [Array.length_toList, hFs, List.length_map, hl'len], Or.inr ⟨blk, cap, _, ?_, hbb, hheap, ?_, hm, ?_, ?_⟩⟩, fun _ => rfl, fun b hb => Or.inl hb, fun k hk' => ?_, fun k hk' j hj => ?_, fun u hu => ?_, fun γ' _ => .tup #[] rfl (fun i hi => absurd hi (by simp))⟩
  · rw [List.length_map, hl'len, hv, hlm]
  · rw [List.length_map, hl'len]; rw [hlm] at hn; exact hn
  · simp [putCells, hs]
  · rw [List.length_map, hl'len, ← hFs]
    exact take_put _ _ (by rw [hFs]; exact hcap)
  · rw [List.getElem_map]
    obtain ⟨cs, hcs, hcl⟩ := hagg (l'[k]'(by simpa using hk'))
    rw [hcs]; exact hcl
  · have hk2 : k < l'.length := by simpa using hk'
    obtain ⟨hkd, hlk⟩ := hl'k k hk2
    have e : (l'.map encT)[k] = encT d'[k].1.2 := by rw [List.getElem_map, hlk]
    simp only [e] at hj ⊢
    obtain ⟨cs, hcs, hcl⟩ := hagg d'[k].1.2
    have hj2 : j < sz := by rw [hcs] at hj; simp only [AV.cells] at hj; omega
    rw [hrow k j (by omega) hj2, getElem!_pos d' k hkd]
    have hrep := d'[k].2.2.2
    rw [hcs] at hrep
    obtain ⟨vs', hvs', hvl, hvr, _⟩ := hrep.agg_inv
    injection hvs' with hvs'
    subst hvs'
    have := hvr j (by omega)
    simp only [hcs, AV.cells]
    rw [Array.getD_eq_getD_getElem?, List.getElem?_toArray, ← List.getD_eq_getElem?_getD] at this
    refine this.mono hgb.size (fun b hS hb => ⟨hgb.block b hb (fun e => hnS b e.symm hS), Or.inl hS, fun e => hnS b e hS⟩)
  · obtain ⟨q, hq, rfl⟩ := List.mem_iff_getElem.1 hu
    have hq' : q < l.length * sz := by rw [Array.length_toList, hFs] at hq; exact hq
    have hqd : q / sz < l.length := Nat.div_lt_of_lt_mul (by rwa [Nat.mul_comm] at hq')
    have hm := Nat.mod_lt q hsz
    have := hrow (q / sz) (q % sz) hqd hm
    have ej : q / sz * sz + q % sz = q := by rw [Nat.mul_comm]; exact Nat.div_add_mod q sz
    rw [ej, List.getD_eq_getElem?_getD, List.getElem?_eq_getElem hq, Option.getD_some] at this
    rw [this]
    have hl2 := hk d'[q / sz]!
    rw [List.getD_eq_getElem?_getD, List.getElem?_eq_getElem (by omega), Option.getD_some]
    exact (d'[q / sz]!).2.2.1 _ (List.getElem_mem _)
end
end Go.Proofs.YtimkhfaddnanhaaGreat
namespace Go.Proofs.YtimkhfaddnanhaaGreat
open Go.RowKit
def F_tidegateref05_Slice_l1 (n : Nat) (a2 : Int) (a1 : Int) (a0 : (List T_api_Event)) (k1_0_0 : (List T_api_Event) → Option ((List T_api_Event) × Int)) : Nat → Int × (List T_api_Event) → Option ((List T_api_Event) × Int)
  | 0, _ => none
  | mv1_0 + 1, v1_0 =>
    cnd (decide (v1_0.1 < (((List.map e_api_Event (a0)).length : Nat) : Int)))
      (idx a0 v1_0.1 fun x43 =>
      cnd (decide (a1 ≤ x43.fTime))
        (idx a0 v1_0.1 fun x44 =>
        cnd (decide (x44.fTime ≤ a2))
          (idx a0 v1_0.1 fun x45 =>
          app v1_0.2 [x45] 56 fun x46 =>
          F_tidegateref05_Slice_l1 n a2 a1 a0 k1_0_0 mv1_0 ((IntKind.wrap .i64 (v1_0.1 + 1)), x46))
        <| F_tidegateref05_Slice_l1 n a2 a1 a0 k1_0_0 mv1_0 ((IntKind.wrap .i64 (v1_0.1 + 1)), v1_0.2))
      <| F_tidegateref05_Slice_l1 n a2 a1 a0 k1_0_0 mv1_0 ((IntKind.wrap .i64 (v1_0.1 + 1)), v1_0.2))
    <| k1_0_0 v1_0.2
def F_tidegateref05_Slice (n : Nat) (a0 : (List T_api_Event)) (a1 : Int) (a2 : Int) : Option ((List T_api_Event) × Int) :=
  bnd (F_tidegateref05_Check n a0) fun x1 =>
  cnd (!decide (x1 = 0))
    (some ([], x1))
  <| F_tidegateref05_Slice_l1 n a2 a1 a0
    (fun k1_0_0y => some (k1_0_0y, 0)) n (0, [])
def F_tidegatelaw37_ReorderSettles (n : Nat) (a0 : Int) (a1 : (List T_api_Message)) (a2 : Int) : Option (Bool) :=
  nzx ((3 : Int)) <| bnd (F_tidegateref37_Few n a1) fun x1 =>
  cnd (!(x1))
    (bnd (F_tidegatelaw37_awake n) fun x2 =>
    some x2)
  <| bnd (F_tidegatelaw37_honest n (IntKind.wrap .i64 ((IntKind.wrap .i64 ((a0).tmod 3)) + 1)) a1) fun x3 =>
  cnd (!(x3.2))
    (bnd (F_tidegatelaw37_awake n) fun x4 =>
    some x4)
  <| cnd (decide ((((List.map e_api_Message (a1)).length : Nat) : Int) = 0))
    (bnd (F_tidegatelaw37_awake n) fun x5 =>
    some x5)
  <| cnd (decide (20 < (((List.map e_api_Message (a1)).length : Nat) : Int)))
    (bnd (F_tidegatelaw37_awake n) fun x6 =>
    some x6)
  <| nzx ((((List.map e_api_Message (a1)).length : Nat) : Int)) <| sls a1 (((IntKind.wrap .i64 a2)).tmod (((List.map e_api_Message (a1)).length : Nat) : Int)) (((List.map e_api_Message (a1)).length : Nat) : Int) fun x7 =>
  bndR (F_clone n x7) fun x8 =>
  sls a1 0 (((IntKind.wrap .i64 a2)).tmod (((List.map e_api_Message (a1)).length : Nat) : Int)) fun x9 =>
  app x8 x9 88 fun x10 =>
  idx a1 (((IntKind.wrap .i64 a2)).tmod (((List.map e_api_Message (a1)).length : Nat) : Int)) fun x11 =>
  app x10 [x11] 88 fun x12 =>
  bndC (F_rev n x12) fun x13 =>
  bnd (F_reorder_Run n (IntKind.wrap .i64 ((IntKind.wrap .i64 ((a0).tmod 3)) + 1)) a1) fun x14 =>
  frz 65 <| reg <| bnd (F_reorder_Run n (IntKind.wrap .i64 ((IntKind.wrap .i64 ((a0).tmod 3)) + 1)) x13) fun x15 =>
  cnd (!decide (x14.2.2 = 0))
    (some false)
  <| cnd (!decide (x15.2.2 = 0))
    (some false)
  <| cnd (!decide ((((List.map aI (x14.2.1)).length : Nat) : Int) = (((List.map e_api_Message (a1)).length : Nat) : Int)))
    (some false)
  <| cnd (!decide ((((List.map aI (x15.2.1)).length : Nat) : Int) = (((List.map e_api_Message (x13)).length : Nat) : Int)))
    (some false)
  <| idx x14.2.1 (IntKind.wrap .i64 ((((List.map aI (x14.2.1)).length : Nat) : Int) - 1)) fun x16 =>
  idx x15.2.1 (IntKind.wrap .i64 ((((List.map aI (x15.2.1)).length : Nat) : Int) - 1)) fun x17 =>
  cnd (!decide (x16 = x17))
    (some false)
  <| bnd (F_tidegateref05_Same n x14.1 x15.1) fun x18 =>
  cnd (!(x18))
    (some false)
  <| idx x14.2.1 (IntKind.wrap .i64 ((((List.map aI (x14.2.1)).length : Nat) : Int) - 1)) fun x19 =>
  bnd (F_tidegateref05_Slice n x3.1 0 x19) fun x20 =>
  bnd (F_tidegateref05_Same n x14.1 x20.1) fun x21 =>
  cnd (x21)
    (bnd (F_tidegatelaw37_awake n) fun x22 =>
    some x22)
  <| some false
end Go.Proofs.YtimkhfaddnanhaaGreat
namespace Go.Proofs.YtimkhfaddnanhaaGreat
open Go.RowKit

theorem num_ext (t u : Trk) (ht : TOk t) (hu : TOk u) (h : ∀ x, Num t x ↔ Num u x) : t.next = u.next ∧ t.beyond = u.beyond := by
  obtain ⟨_, _, _, q4⟩ := (sqCheck_zero t).1 ht.sq
  obtain ⟨_, _, _, r4⟩ := (sqCheck_zero u).1 hu.sq
  have q5 := List.pairwise_cons.1 q4
  have r5 := List.pairwise_cons.1 r4
  have hn : t.next = u.next := by
    have a1 : ¬ Num t t.next := by
      rintro (h | h)
      · omega
      · have := q5.1 _ h; omega
    have a2 : ¬ Num u u.next := by
      rintro (h | h)
      · omega
      · have := r5.1 _ h; omega
    have b1 : ¬ t.next < u.next := fun hlt => a1 ((h _).2 (Or.inl hlt))
    have b2 : ¬ u.next < t.next := fun hlt => a2 ((h _).1 (Or.inl hlt))
    omega
  refine ⟨hn, ?_⟩
  have hm : ∀ x, x ∈ t.beyond ↔ x ∈ u.beyond := fun x => by
    constructor
    · intro hx
      rcases (h x).1 (Or.inr hx) with h1 | h1
      · have := q5.1 x hx; omega
      · exact h1
    · intro hx
      rcases (h x).2 (Or.inr hx) with h1 | h1
      · have := r5.1 x hx; omega
      · exact h1
  have key : ∀ (a b : List Int), a.Pairwise (· < ·) → b.Pairwise (· < ·) → (∀ x, x ∈ a ↔ x ∈ b) → a = b := fun a => by
    induction a with
    | nil => intro b _ _ h; cases b with
      | nil => rfl
      | cons y s => exact absurd ((h y).2 (by simp)) (by simp)
    | cons x r ih =>
      intro b ha hb h
      cases b with
      | nil => exact absurd ((h x).1 (by simp)) (by simp)
      | cons y s =>
        obtain ⟨a1, a2⟩ := List.pairwise_cons.1 ha
        obtain ⟨b1, b2⟩ := List.pairwise_cons.1 hb
        have hxy : x = y := by
          rcases List.mem_cons.1 ((h x).1 (by simp)) with h1 | h1
          · exact h1
          · rcases List.mem_cons.1 ((h y).2 (by simp)) with h2 | h2
            · exact h2.symm
            · have := a1 y h2; have := b1 x h1; omega
        subst hxy
        rw [ih s a2 b2 fun z => ?_]
        constructor
        · intro hz
          rcases List.mem_cons.1 ((h z).1 (by simp [hz])) with h1 | h1
          · have := a1 z hz; omega
          · exact h1
        · intro hz
          rcases List.mem_cons.1 ((h z).2 (by simp [hz])) with h1 | h1
          · have := b1 z hz; omega
          · exact h1
  exact key _ _ q5.2 r5.2 hm
theorem got_same {k : Nat} {l l' : List Trk} {d d' : List T_api_Message} (h : Got k l d) (h' : Got k l' d') (hd : ∀ m, m ∈ d ↔ m ∈ d') : l = l' := by
  apply List.ext_getElem (h.len.trans h'.len.symm)
  intro i h1 h2
  have hE : ∀ x, Evs d (i : Int) x ↔ Evs d' (i : Int) x := fun x => ⟨fun ⟨m, a, b⟩ => ⟨m, (hd m).1 a, b⟩, fun ⟨m, a, b⟩ => ⟨m, (hd m).2 a, b⟩⟩
  have hP : ∀ x, PtsM d (i : Int) x ↔ PtsM d' (i : Int) x := fun x => ⟨fun ⟨m, a, b⟩ => ⟨m, (hd m).1 a, b⟩, fun ⟨m, a, b⟩ => ⟨m, (hd m).2 a, b⟩⟩
  have f := h.fwd i h1
  have f' := h'.fwd i h2
  obtain ⟨a, b⟩ := num_ext _ _ (h.ok _ (List.getElem_mem h1)) (h'.ok _ (List.getElem_mem h2)) fun x => by rw [f.num, f'.num, hE]
  refine tok_ext _ _ (h.ok _ (List.getElem_mem h1)) (h'.ok _ (List.getElem_mem h2)) a b fun s τ hs => ?_
  rw [f.forb s τ hs, f'.forb s τ (by omega)]
  simp only [hP]

end Go.Proofs.YtimkhfaddnanhaaGreat
namespace Go.Proofs.YtimkhfaddnanhaaGreat.S05
open Go.RowKit

def sliceS (l : List Ev) (a b : Int) : List Ev × Int := if strChk l ≠ 0 then ([], strChk l) else (l.filter (sliceB a b), 0)
theorem p_rslice_l1 (n : Nat) (l : List Ev) (a b : Int) : ∀ (m k : Nat) (out : List Ev), k ≤ l.length → l.length ≤ 1000000 → l.length < m + k → out.length ≤ k → F_tidegateref05_Slice_l1 n b a l (fun k1_0_0y => some (k1_0_0y, 0)) m ((k : Int), out) = some (out ++ (l.drop k).filter (sliceB a b), 0)
  | 0, k, _, h1, h2, h3, _ => by omega
  | m + 1, k, out, h1, h2, h3, h4 => by
    unfold F_tidegateref05_Slice_l1
    simp only [List.length_map, cnd_if]
    by_cases h : k < l.length
    · rw [if_pos (by omega), idx_nat h, wrapS k (by omega), idx_nat h, idx_nat h]
      rw [app_ok (by simp; omega) (by omega)]
      rw [drop_eq_cons l k h, List.filter_cons]
      have ih1 := p_rslice_l1 n l a b m (k + 1) (out ++ [l[k]]) (by omega) h2 (by omega) (by simp; omega)
      have ih2 := p_rslice_l1 n l a b m (k + 1) out (by omega) h2 (by omega) (by omega)
      unfold sliceB at *
      by_cases h5 : a ≤ l[k].fTime
      · rw [if_pos h5]
        by_cases h6 : l[k].fTime ≤ b
        · rw [if_pos h6, ih1, if_pos (by simp [h5, h6]), List.append_assoc]; rfl
        · rw [if_neg h6, ih2, if_neg (by simp [h6])]
      · rw [if_neg h5, ih2, if_neg (by simp [h5])]
    · rw [if_neg (by omega), List.drop_eq_nil_of_le (by omega)]; simp
theorem p_rslice (n : Nat) (l : List Ev) (a b : Int) (hn : l.length < n) (h2 : l.length ≤ 1000000) : F_tidegateref05_Slice n l a b = some (sliceS l a b) := by
  unfold F_tidegateref05_Slice sliceS
  simp only [p_rchk n l hn h2, bnd_some, cnd_not, cnd_if]
  by_cases h : strChk l = 0
  · rw [if_pos h, if_neg (by simp [h])]
    have := p_rslice_l1 n l a b n 0 [] (by omega) h2 (by omega) (by simp)
    simpa using this
  · rw [if_neg h, if_pos h]

end Go.Proofs.YtimkhfaddnanhaaGreat.S05
namespace Go.Proofs.YtimkhfaddnanhaaGreat
open Go.RowKit
open S05

theorem rot_mem {α : Type} (l : List α) (k : Nat) (h : k < l.length) (x : α) : x ∈ ((l.drop k ++ l.take k) ++ [l[k]]).reverse ↔ x ∈ l := by
  rw [List.mem_reverse, List.mem_append, List.mem_append, List.mem_singleton]
  constructor
  · rintro ((h1 | h1) | rfl)
    · exact List.mem_of_mem_drop h1
    · exact List.mem_of_mem_take h1
    · exact List.getElem_mem h
  · intro hx
    rw [← List.take_append_drop k l] at hx
    rcases List.mem_append.1 hx with h1 | h1
    · exact Or.inl (Or.inr h1)
    · exact Or.inl (Or.inl h1)
theorem law_settles37 (a : Int) (h0 : 0 ≤ a) (h1 : a < 256) (ms : List T_api_Message) (b : Int) (h2 : 0 ≤ b) (h3 : b < 256) : F_tidegatelaw37_ReorderSettles 100000 a ms b = some true := by
  unfold F_tidegatelaw37_ReorderSettles
  rw [nzx_ok (by omega), p_few37 _ ms (by omega), awake37]
  obtain ⟨k, k1, k2, k3⟩ := mod3 a h0 h1
  rw [k3]
  simp only [bnd_some, cnd_not]
  cases hf : few37 ms with
  | false => rw [cnd_f]
  | true =>
    rw [cnd_t]
    obtain ⟨f1, f2⟩ := few37_out hf
    rw [p_hon37 _ ms f1 f2, bnd_some]
    by_cases hS : (sortS (evsOf ms)).2 = 0
    · rw [if_pos hS]
      obtain ⟨s1, s2⟩ := sortS_ok37 hS
      cases hB : honB (k : Int) ms with
      | false => rw [cnd_f]
      | true =>
        have hH := honB_hon k ms hB
        simp only [cnd_t, cnd_if, List.length_map]
        by_cases hz : (ms.length : Int) = 0
        · rw [if_pos hz]
        rw [if_neg hz]
        by_cases h20 : (20 : Int) < (ms.length : Int)
        · rw [if_pos h20]
        rw [if_neg h20, nzx_ok hz]
        have hlen : 0 < ms.length := by omega
        have wb : IntKind.wrap .i64 b = b := wrap_in _ (by omega)
        have m1 := Int.tmod_nonneg (ms.length : Int) h2
        have m2 := Int.tmod_lt_of_pos b (show (0 : Int) < (ms.length : Int) by omega)
        rw [wb]
        obtain ⟨j, hj⟩ : ∃ j : Nat, b.tmod (ms.length : Int) = (j : Int) := ⟨(b.tmod (ms.length : Int)).toNat, by omega⟩
        rw [hj]
        have hjl : j < ms.length := by omega
        have z0 : ∀ (K : List T_api_Message → Option Bool), sls ms 0 (j : Int) K = K (ms.take j) := fun K => by
          have := sls_ok (l := ms) (a := 0) (b := j) (by omega) (by omega) K
          simpa using this
        rw [sls_ok (by omega) (Nat.le_refl _), List.take_length]
        unfold F_clone
        rw [if_pos (by rw [List.length_drop]; omega), bndR_some, z0, app_ok (by rw [List.length_drop, List.length_take]; omega) (by omega), idx_nat hjl, app_ok (by simp; omega) (by omega)]
        unfold F_rev
        have htl : ((ms.drop j ++ ms.take j) ++ [ms[j]]).reverse.length = ms.length + 1 := by simp; omega
        rw [if_pos (by simp; omega), bndC_some]
        have hmem := rot_mem ms j hjl
        generalize ((ms.drop j ++ ms.take j) ++ [ms[j]]).reverse = ms' at htl hmem ⊢
        have f2' : ∀ m ∈ ms', sv m.fEvent := fun m hm => f2 m ((hmem m).1 hm)
        have hb : beginT (k : Int) = (List.replicate k t0, 0) := begin_ok37 (k := (k : Int)) (by omega) (by omega)
        have e : ∀ ms : List T_api_Message, runP (k : Int) ms = (relW (List.replicate k t0) [] ms, mksW (List.replicate k t0) [] ms, 0) := fun ms => by unfold runP; rw [hb, if_neg (by simp)]
        rw [p_run37 _ _ ms (by omega) f2 (by omega), bnd_some, frz_eq, reg_eq, p_run37 _ _ ms' (by omega) f2' (by omega), bnd_some, e, e]
        simp only [cnd_not, cnd_if, mksW_len, if_true]
        obtain ⟨g1, i1, r1, q1, l1, _⟩ := hon_run (by omega) hH s2 ms (fun m => Iff.rfl) (by omega)
        obtain ⟨g2, i2, r2, q2, l2, _⟩ := hon_run (by omega) hH s2 ms' hmem (by omega)
        have hsame := got_same g1 g2 (fun m => (hmem m).symm)
        have n1 := mksW_len ms (List.replicate k t0) []
        have n2 := mksW_len ms' (List.replicate k t0) []
        have e1 : (mksW (List.replicate k t0) [] ms)[ms.length - 1]'(by omega) = leastOf (finW (List.replicate k t0) [] ms).1 := by
          apply l1
          rw [List.getLast?_eq_getElem?]
          simp only [n1]
          exact List.getElem?_eq_getElem (by omega)
        have e2 : (mksW (List.replicate k t0) [] ms')[ms'.length - 1]'(by omega) = leastOf (finW (List.replicate k t0) [] ms).1 := by
          rw [hsame]
          apply l2
          rw [List.getLast?_eq_getElem?]
          simp only [n2]
          exact List.getElem?_eq_getElem (by omega)
        rw [wrap_pred' (by omega) (by omega), wrap_pred' (by omega) (by omega), idx_nat (by omega : ms.length - 1 < (mksW (List.replicate k t0) [] ms).length), idx_nat (by omega : ms'.length - 1 < (mksW (List.replicate k t0) [] ms').length), e1, e2, if_pos rfl]
        have eq : relW (List.replicate k t0) [] ms' = relW (List.replicate k t0) [] ms := by rw [q1, q2, hsame]
        rw [eq]
        obtain ⟨o1, o2, o3⟩ := runP_out (k : Int) ms (by omega) f2
        rw [e] at o1 o2 o3
        simp only at o1 o2 o3
        rw [Same_refl o1 (by omega), bnd_some, cnd_t, idx_nat (by omega : ms.length - 1 < (mksW (List.replicate k t0) [] ms).length), e1, s1]
        have hst : Strm (srt (evsOf ms)) := by rw [← r1]; exact i1.st
        have hle := evsOf_len ms
        have hsl := (srt_nodup s2).length_le_of_subset (fun x hx => (srt_mem s2 x).1 hx)
        rw [S05.p_rslice _ _ _ _ (by omega) (by omega), bnd_some]
        have hsc : (sliceS (srt (evsOf ms)) 0 (leastOf (finW (List.replicate k t0) [] ms).1)).1 = relW (List.replicate k t0) [] ms := by
          unfold sliceS
          rw [if_neg (by rw [hst.chk (by omega)]; simp), q1]
          refine List.filter_congr fun x hx => ?_
          have := hst.pl x hx
          unfold placedB at this
          simp only [Bool.and_eq_true, decide_eq_true_eq] at this
          unfold sliceB early
          rw [decide_eq_true this.1, Bool.true_and]
        rw [hsc, Same_refl o1 (by omega), bnd_some, cnd_t]
    · rw [if_neg hS]
      simp only [cnd_f]

end Go.Proofs.YtimkhfaddnanhaaGreat
namespace Go.Proofs
open Go.Shelf
def Tryz.laysSlE35_f27_ren : Go.Shelf.Ren := ⟨fun | 35 => 27 | n => n, fun | 22 => 32 | 23 => 28 | 3 => 3 | 4 => 4 | 0 => 0 | n => n, fun | n => n⟩
theorem Tryz.laysSlE35_f27 : Go.Proofs.SlLaysE0.n35 Tryz.prog Tryz.laysSlE35_f27_ren := {
  mixed := by kernel_rfl
  f35 := ⟨Tryz.f27.name, by decide, Tryz.func27.trans (congrArg some (by kernel_rfl))⟩
  t0 := Tryz.underlying0
  a0 := Tryz.isAgg0
  z0 := Tryz.sizeOf0
  v0 := Tryz.zeroValue0
  t3 := Tryz.underlying3
  a3 := Tryz.isAgg3
  z3 := Tryz.sizeOf3
  v3 := Tryz.zeroValue3
  t4 := Tryz.underlying4
  a4 := Tryz.isAgg4
  z4 := Tryz.sizeOf4
  v4 := Tryz.zeroValue4
  t22 := Tryz.underlying32
  a22 := Tryz.isAgg32
  z22 := Tryz.sizeOf32
  v22 := Tryz.zeroValue32 }
end Go.Proofs
namespace Go.Proofs.YtimkhfaddnanhaaGreat
open Go.RowKit
theorem revMsg_con {n : Nat} {l l' : List T_api_Message} (hF : F_rev n l = some l') : ConC true E0 27 [.row 0] 28 9 (l.map e_api_Message) 28 9 (l'.map e_api_Message) (.tup []) :=
  rev_gen (enters_of Tryz.func27 rfl rfl) (by omega) (fun x => ⟨_, rfl, rfl⟩)
    (fun α _ enc hk h1 blk off cap d w hH hsz => AnyQ.slices_Reverse Tryz.laysSlE35_f27 9 Tryz.isAgg28 Tryz.sizeOf28 enc hk h1 blk off cap d w hH hsz)
    (fun p cap w => AnyQ.slices_Reverse_empty Tryz.laysSlE35_f27 p cap w) hF
end Go.Proofs.YtimkhfaddnanhaaGreat
namespace Go.Proofs.YtimkhfaddnanhaaGreat
open Go.RowKit
def S_tidegateref05_Slice_l1 (a2 : Int) (a1 : Int) (a0 : (List T_api_Event)) (v1_0 : Int × (List T_api_Event)) : AS := ⟨[(0, .sl 5 (List.map e_api_Event (a0))), (1, aI (a1)), (2, aI (a2)), (9, .row 7044), (10, aI (v1_0.1))], [(7044, .row 26 5 (List.map e_api_Event (v1_0.2)))]⟩
theorem tidegateref05_Slice_l1_o {n N : Nat} {a2 : Int} {a1 : Int} {a0 : (List T_api_Event)} {k1_0_0 : (List T_api_Event) → Option ((List T_api_Event) × Int)} {R : Exit → AS → Prop} {K : List KItem} {c : Code} {σ : AS} {v0 : Int × (List T_api_Event)} {r : (List T_api_Event) × Int} (hF : F_tidegateref05_Slice_l1 n a2 a1 a0 k1_0_0 N v0 = some r) (hl : LeX E0 46 σ (S_tidegateref05_Slice_l1 a2 a1 a0 v0)) (round : ∀ m v, F_tidegateref05_Slice_l1 n a2 a1 a0 k1_0_0 (m + 1) v = some r → AW E0 46 (thenA (fun σ' => ∃ v', F_tidegateref05_Slice_l1 n a2 a1 a0 k1_0_0 m v' = some r ∧ LeX E0 46 σ' (S_tidegateref05_Slice_l1 a2 a1 a0 v')) (AW E0 46 R K)) [.code c] .normal (S_tidegateref05_Slice_l1 a2 a1 a0 v)) : LoopX E0 46 (fun next σ' => AW E0 46 (thenA next (AW E0 46 R K)) [.code c] .normal σ') σ :=
  LoopA.o (S := S_tidegateref05_Slice_l1 a2 a1 a0) hF (fun _ => rfl) hl round
def R_tidegateref05_Slice (r : (List T_api_Event) × Int) : AV := .tup [.sl 5 (List.map e_api_Event (r.1)), aI (r.2)]
theorem con_tidegateref05_Slice {n : Nat} {a0 : (List T_api_Event)} {a1 : Int} {a2 : Int} {r : (List T_api_Event) × Int} (hF : F_tidegateref05_Slice n a0 a1 a2 = some r) : Con E0 false 28 [.sl 5 (List.map e_api_Event (a0)), aI (a1), aI (a2)] (R_tidegateref05_Slice r) := by
  unfold F_tidegateref05_Slice at hF
  refine Con.walk _ Tryz.func28 rfl (enters_of Tryz.func28 rfl rfl) rfl (Or.inl rfl) ?_
  repeat' first
    | (refine AW.step ?_; conv => whnf)
    | (refine CondX.o hF (fun hF => ?_) (fun hF => ?_))
    | (refine CondX.t ?_)
    | (refine CondX.f ?_)
    | (refine CallX.o hF R_tidegateref05_Check (fun a h => con_tidegateref05_Check h) (fun a hF => ?_))
    | (refine IdxX.o e_api_Event hF (fun x hF => ?_))
    | (refine AppX.o e_api_Event hF (by first | exact SubR.refl _ | (repeat' first | exact SubR.nil | refine SubR.cons ?_ ?_ | exact SubL.nil | refine SubL.cons ?_ ?_ | exact Sub.refl _ | exact Sub.nil _)) (fun l hF => ?_))
    | (exact ⟨_, hF, LeX.of [(7044, 44)] rfl ⟨⟨rfl, rfl⟩, ⟨rfl, rfl⟩, ⟨rfl, rfl⟩, ⟨rfl, rfl⟩, ⟨rfl, rfl⟩, trivial⟩ ⟨⟨rfl, rfl⟩, trivial⟩⟩)
    | (exact ⟨_, hF, LeX.of [] rfl ⟨⟨rfl, rfl⟩, ⟨rfl, rfl⟩, ⟨rfl, rfl⟩, ⟨rfl, rfl⟩, ⟨rfl, rfl⟩, trivial⟩ ⟨⟨rfl, rfl⟩, trivial⟩⟩)
    | (refine tidegateref05_Slice_l1_o hF (LeX.trans (LeX.adopt 9 7044 26 5 rfl rfl) (LeX.of [] rfl ⟨⟨rfl, rfl⟩, ⟨rfl, rfl⟩, ⟨rfl, rfl⟩, ⟨rfl, rfl⟩, ⟨rfl, rfl⟩, trivial⟩ ⟨⟨rfl, rfl⟩, trivial⟩)) (fun m v hF => ?_); unfold F_tidegateref05_Slice_l1 at hF)
    | (refine And.intro ⟨by kernel_rfl, by kernel_rfl⟩ ?_)
    | (refine EqX.mk (by first | rfl | kernel_rfl) ?_)
    | (exact RetX.o hF (by repeat' first | exact Sub.nil _ | exact Sub.refl _ | refine Sub.agg ?_ | refine Sub.tup ?_ | refine Sub.fn ?_ | exact SubL.nil | refine SubL.cons ?_ ?_ | refine Sub.sl _ ?_ | exact SubE.nil | refine SubE.cons ?_ ?_))

end Go.Proofs.YtimkhfaddnanhaaGreat
namespace Go.Proofs.YtimkhfaddnanhaaGreat
open Go.RowKit
def R_tidegatelaw37_ReorderSettles (r : Bool) : AV := .bool (r)
theorem con_tidegatelaw37_ReorderSettles {n : Nat} {a0 : Int} {a1 : (List T_api_Message)} {a2 : Int} {r : Bool} (hF : F_tidegatelaw37_ReorderSettles n a0 a1 a2 = some r) : Con E0 true 5 [.int .u8 (a0), .sl 9 (List.map e_api_Message (a1)), .int .u8 (a2)] (R_tidegatelaw37_ReorderSettles r) := by
  unfold F_tidegatelaw37_ReorderSettles at hF
  refine Con.walk _ Tryz.func5 rfl (enters_of Tryz.func5 rfl rfl) rfl (Or.inr rfl) ?_
  repeat' first
    | (refine AW.regO hF (fun hF => ?_))
    | (refine AW.frzO hF 65 rfl (fun hF => ?_))
    | (refine AW.stepU [11] ?_; conv => whnf)
    | (refine CondX.o hF (fun hF => ?_) (fun hF => ?_))
    | (refine CondX.t ?_)
    | (refine CondX.f ?_)
    | (refine NzX.o hF (fun hF => ?_))
    | (refine CallX.o hF R_tidegateref37_Few (fun a h => con_tidegateref37_Few h) (fun a hF => ?_))
    | (refine CallX.o hF R_tidegatelaw37_awake (fun a h => con_tidegatelaw37_awake h) (fun a hF => ?_))
    | (refine CallX.o hF R_tidegatelaw37_honest (fun a h => con_tidegatelaw37_honest h) (fun a hF => ?_))
    | (refine SlsX.o e_api_Message hF (fun l hF => ?_))
    | (refine CallX.oR hF (fun r => r) e_api_Message (fun _ => AV.row 0) rfl (fun a h => conT_clone26 h) (fun a hF => ?_))
    | (refine CallX.oR hF (fun r => r) e_api_Message (fun _ => AV.row 0) rfl (fun a h => ConT.sub (by repeat' first | exact Sub.nil _ | exact Sub.refl _ | refine Sub.agg ?_ | refine Sub.tup ?_ | refine Sub.fn ?_ | exact SubL.nil | refine SubL.cons ?_ ?_ | refine Sub.sl _ ?_ | exact SubE.nil | refine SubE.cons ?_ ?_) (conT_clone26 h)) (fun a hF => ?_))
    | (refine AppX.o e_api_Message hF (by first | exact SubR.refl _ | (repeat' first | exact SubR.nil | refine SubR.cons ?_ ?_ | exact SubL.nil | refine SubL.cons ?_ ?_ | exact Sub.refl _ | exact Sub.nil _)) (fun l hF => ?_))
    | (refine IdxX.o e_api_Message hF (fun x hF => ?_))
    | (refine CallC.oI hF 65 (fun r => r) e_api_Message (fun _ => AV.tup []) rfl (fun a h => revMsg_con h) rfl rfl rfl (fun a hF => ?_))
    | (refine CallX.o hF R_reorder_Run (fun a h => con_reorder_Run h) (fun a hF => ?_))
    | (refine IdxX.o aI hF (fun x hF => ?_))
    | (refine CallX.o hF R_tidegateref05_Same (fun a h => con_tidegateref05_Same h) (fun a hF => ?_))
    | (refine CallX.o hF R_tidegateref05_Slice (fun a h => con_tidegateref05_Slice h) (fun a hF => ?_))
    | (refine And.intro ⟨by kernel_rfl, by kernel_rfl⟩ ?_)
    | (refine EqX.mk (by first | rfl | kernel_rfl) ?_)
    | (exact RetX.o hF (by repeat' first | exact Sub.nil _ | exact Sub.refl _ | refine Sub.agg ?_ | refine Sub.tup ?_ | refine Sub.fn ?_ | exact SubL.nil | refine SubL.cons ?_ ?_ | refine Sub.sl _ ?_ | exact SubE.nil | refine SubE.cons ?_ ?_))

end Go.Proofs.YtimkhfaddnanhaaGreat
namespace Go.Proofs.YtimkhfaddnanhaaGreat
open Go.RowKit
theorem settles_con37 (a : Nat) (h : a ≤ 255) (l : List T_api_Message) (b : Nat) (h2 : b ≤ 255) : Con E0 true 5 [.int .u8 a, .sl 9 (l.map e_api_Message), .int .u8 b] (.bool true) := con_tidegatelaw37_ReorderSettles (law_settles37 a (by omega) (by omega) l b (by omega) (by omega))
end Go.Proofs.YtimkhfaddnanhaaGreat
