/- slices.Reverse at structs, in its place: a contract of the abstract walk out of the kit's. Layer 5: slices.Reverse at events. -/
import Derived.Test.YtdbapaofibgfcaaLibS
import Derived.Shelf.SlicesQ.Reverse
import Derived.Test.YtdbapaofibgfcaaP05S
import Derived.Test.YtdbapaofibgfcaaShelfR
set_option linter.unusedVariables false
set_option linter.unusedSimpArgs false
namespace Go.Proofs.Ytdbapaofibgfcaa
open Go.RowKit
open Go.Sort (HoldsK flatK putRowK putRow putCells mapBlock onCells size_flatK get_flatK)

section
variable {T : Type}
def F_rev (n : Nat) (l : List T) : Option (List T) := if l.length ≤ 1000000000 then some l.reverse else none
theorem rev_gen {E : Env} {f ty sz : Nat} {encT : T → AV} {n : Nat} {l l' : List T} (he : Enters E f) (hsz : 0 < sz)
    (hagg : ∀ x, ∃ cs, encT x = .agg cs ∧ cs.length = sz)
    (hrev : ∀ (α : Type) [Inhabited α] (enc : α → List Value) (hk : ∀ x, (enc x).length = sz) (h1 : ∀ x, ∀ v ∈ enc x, v.oneCell' = true) (blk off cap : Nat) (d : Array α) (w : World)
      (hH : HoldsK enc sz w blk off d) (hsz : d.size ≤ 9223372036854775807),
      Calls E.P f #[.slice (some ⟨blk, off, none⟩) d.size cap] w fun e w' => e = .returned (.tuple #[]) ∧ ∃ n, w' = putRowK enc sz (Go.Sort.ahead w n) blk off d.reverse)
    (hnone : ∀ (p : Option Addr) (cap : Nat) (w : World), Calls E.P f #[.slice p 0 cap] w fun e w' => e = .returned (.tuple #[]) ∧ w' = w)
    (hF : F_rev n l = some l') :
    ConC true E f [.row 0] ty sz (l.map encT) ty sz (l'.map encT) (.tup []) := by
  unfold F_rev at hF
  split at hF
  rotate_left
  · cases hF
  rename_i hll
  injection hF with hF
  refine ⟨he, rfl, fun S w0 w vs v us hbw hown hlen hre hone hnS hvs hargs => ?_⟩
  -- the arguments
  have ha := hargs (fun i => if i = 0 then some (some (v.ownBlock, v)) else none) rfl
  have h0 := (ha 0 (by simp)).row_inv (g := v.ownBlock) (s := v) rfl
  have evs : vs = #[v] := by
    have := getD1 hvs
    rw [h0] at this
    exact this
  rw [evs]
  clear ha h0 evs
  have hlm : (l.map encT).length = l.length := List.length_map _
  have hl'len : l'.length = l.length := by rw [← hF]; simp
  -- no element
  have empty : l = [] → Calls E.P f #[v] w fun e w' => ∃ u v' us', e = .returned u ∧ w.grownBy w' v.ownBlock ∧ w'.ownsRow w0.heap.size ty sz v' (l'.map encT).length us' ∧ (true = true → v' = v) ∧ (∀ b, v'.ownBlock = some b → v.ownBlock = some b ∨ w.heap.size ≤ b) ∧ (∀ k (hk : k < (l'.map encT).length), ((l'.map encT)[k]).cells.length = sz) ∧
      (∀ k (hk : k < (l'.map encT).length) j (hj : j < ((l'.map encT)[k]).cells.length), Rep w' (fun b => (S b ∨ w.heap.size ≤ b) ∧ v'.ownBlock ≠ some b) G0 (((l'.map encT)[k]).cells[j]) (us'.getD (k * sz + j) undef)) ∧ (∀ u ∈ us', u.oneCell' = true) ∧
      ∀ γ' : Gam, γ' 0 = some (some (v'.ownBlock, v')) → Rep w' (fun b => (S b ∨ w.heap.size ≤ b) ∧ v'.ownBlock ≠ some b) γ' (.tup []) u := fun h0 => by
    have hl0 : l' = [] := by rw [← hF, h0]; rfl
    subst hl0
    subst h0
    have hv : ∃ p cap, v = .slice p 0 cap := by
      rcases hown.2 with ⟨hv, _⟩ | ⟨b, cap, cur, hv, _⟩
      · exact ⟨none, 0, hv⟩
      · exact ⟨_, cap, hv⟩
    obtain ⟨p, cap, hv⟩ := hv
    have hcall := hnone p cap w
    rw [← hv] at hcall
    refine hcall.mono ?_
    rintro e w' ⟨rfl, rfl⟩
    exact ⟨_, v, us, rfl, World.grownBy.refl _ _, hown, fun _ => rfl, fun b hb => Or.inl hb, fun k hk => absurd hk (by simp), fun k hk => absurd hk (by simp), hone, fun γ' _ => .tup #[] rfl (fun i hi => absurd hi (by simp))⟩
  by_cases hl0 : l = []
  · exact empty hl0
  have hlp : 0 < l.length := List.length_pos_iff.2 hl0
  rcases hown.2 with ⟨_, h0⟩ | ⟨blk, cap, cur, hv, hbb, hh, hn, hm, hs, ht⟩
  · omega
  have hblk : blk < w.heap.size := (Array.getElem?_eq_some_iff.1 hh).1
  have hob : v.ownBlock = some blk := by rw [hv]; rfl
  have husl : us.length = l.length * sz := by rw [hown.1, hlm]
  have hin : ∀ k j, k < l.length → j < sz → k * sz + j < l.length * sz := fun k j hk hj => by
    have : (k + 1) * sz ≤ l.length * sz := Nat.mul_le_mul_right _ hk
    rw [Nat.succ_mul] at this
    omega
  -- the elements
  have hel : ∀ i (hi : i < l.length), ((us.drop (i * sz)).take sz).length = sz ∧ (∀ v ∈ (us.drop (i * sz)).take sz, v.oneCell' = true) ∧ Rep w S G0 (encT l[i]) (.agg ((us.drop (i * sz)).take sz).toArray) := fun i hi => by
    have hlen1 : ((us.drop (i * sz)).take sz).length = sz := by
      rw [List.length_take, List.length_drop]
      have : (i + 1) * sz ≤ l.length * sz := Nat.mul_le_mul_right _ hi
      rw [Nat.succ_mul] at this
      omega
    have hone1 : ∀ v ∈ (us.drop (i * sz)).take sz, v.oneCell' = true := fun v hv => hone v (List.mem_of_mem_drop (List.mem_of_mem_take hv))
    refine ⟨hlen1, hone1, ?_⟩
    obtain ⟨cs, hcs, hcl⟩ := hagg l[i]
    rw [hcs]
    have hget : ∀ j, j < sz → ((us.drop (i * sz)).take sz).toArray.getD j undef = us.getD (i * sz + j) undef := fun j hj => by
      rw [Array.getD_eq_getD_getElem?, List.getElem?_toArray, List.getElem?_take_of_lt hj, List.getElem?_drop, List.getD_eq_getElem?_getD]
    refine .agg _ (by simpa [hcl] using hlen1) (fun j hj => ?_) (fun j hj => ?_)
    · rw [hget j (by omega)]
      have hil : i < (l.map encT).length := by rw [hlm]; exact hi
      have e : (l.map encT)[i] = .agg cs := by rw [List.getElem_map]; exact hcs
      have := hre i hil j (by rw [e]; exact hj)
      simp only [e, AV.cells] at this
      exact this
    · have hj' : j < ((us.drop (i * sz)).take sz).length := by simpa using hj
      rw [Array.getD_eq_getD_getElem?, List.getElem?_toArray, List.getElem?_eq_getElem hj', Option.getD_some]
      exact hone1 _ (List.getElem_mem hj')
  let A := SEl w S sz encT
  let enc : A → List Value := fun p => p.1.1
  let d : Array A := (List.ofFn fun i : Fin l.length => (⟨((us.drop (i.1 * sz)).take sz, l[i.1]), hel i.1 i.2⟩ : A)).toArray
  haveI : Inhabited A := ⟨⟨((us.drop (0 * sz)).take sz, l[0]), hel 0 hlp⟩⟩
  have hds : d.size = l.length := by simp [d]
  have hdi : ∀ i (hi : i < l.length), d[i]! = ⟨((us.drop (i * sz)).take sz, l[i]), hel i hi⟩ := fun i hi => by
    rw [getElem!_pos d i (by rw [hds]; exact hi)]
    simp [d]
  have hk : ∀ x : A, (enc x).length = sz := fun x => x.2.1
  have hH : HoldsK enc sz w blk 0 d := fun j hj => by
    have hj' : j < l.length * sz := by rw [size_flatK, hds] at hj; exact hj
    have hq : j / sz < l.length := Nat.div_lt_of_lt_mul (by rwa [Nat.mul_comm] at hj')
    have hm := Nat.mod_lt j hsz
    have e := flat_get enc sz hk d (j / sz) (j % sz) (by rw [hds]; exact hq) hm
    have ej : j / sz * sz + j % sz = j := by rw [Nat.mul_comm]; exact Nat.div_add_mod j sz
    rw [ej] at e
    have ef : (flatK enc sz d)[j]! = us.getD j undef := by
      rw [getElem!_pos (flatK enc sz d) j hj]
      have h1 : (flatK enc sz d).toList.getD j undef = (flatK enc sz d)[j] := by
        rw [List.getD_eq_getElem?_getD, Array.getElem?_toList, Array.getElem?_eq_getElem hj]; rfl
      rw [← h1, e, hdi _ hq]
      show ((us.drop (j / sz * sz)).take sz).getD (j % sz) undef = us.getD j undef
      rw [List.getD_eq_getElem?_getD, List.getElem?_take_of_lt hm, List.getElem?_drop, ej, ← List.getD_eq_getElem?_getD]
    rw [ef, Nat.zero_add]
    refine ⟨row_cells hown hob j (by rw [hlm]; exact hj'), ?_⟩
    simp [World.frozen?, hh]
  have hcall := hrev A enc hk (fun x => x.2.2.1) blk 0 cap d w hH (by rw [hds]; omega)
  have ev : v = .slice (some ⟨blk, 0, none⟩) d.size cap := by rw [hv, hlm, hds]
  rw [← ev] at hcall
  refine hcall.mono ?_
  rintro e w' ⟨rfl, m, hw'⟩
  obtain ⟨d', hd'⟩ : ∃ d', d.reverse = d' := ⟨_, rfl⟩
  rw [hd'] at hw'
  have hd's : d'.size = l.length := by rw [← hd', Array.size_reverse]; exact hds
  -- what lies there now
  have hdl : d.toList.map (fun p => p.1.2) = l := by
    simp only [d, List.map_ofFn]
    apply List.ext_getElem
    · simp
    · intro i h1 h2; simp
  have hfin : d'.toList.map (fun p => p.1.2) = l' := by rw [← hF, ← hd', Array.toList_reverse, List.map_reverse, hdl]
  have hl'k : ∀ k (hk' : k < l'.length), ∃ h : k < d'.size, l'[k] = d'[k].1.2 := fun k hk' => by
    have h : k < d'.size := by omega
    refine ⟨h, ?_⟩
    have : l'[k] = (d'.toList.map (fun p => p.1.2))[k]'(by simpa using h) := by simp only [hfin]
    rw [this]
    simp
  have hgb : w.grownBy w' v.ownBlock := by
    rw [hob, hw']
    refine ⟨rfl, rfl, rfl, by simp [putRowK, putRow, mapBlock, Go.Sort.ahead], fun k hk hne => ?_⟩
    have : blk ≠ k := fun e => hne (by rw [e])
    simp [putRowK, putRow, mapBlock, Go.Sort.ahead, Array.getElem?_modify, this]
  have hFs : (flatK enc sz d').size = l.length * sz := by rw [size_flatK, hd's]
  have hcap : l.length * sz ≤ cur.size := by
    rw [hs]; rw [hlm] at hn; exact Nat.mul_le_mul_right _ hn
  have hheap : w'.heap[blk]? = some (.cells (putCells id 0 (flatK enc sz d') cur) ty (0, 0)) := by
    rw [hw']
    simp [putRowK, putRow, mapBlock, Go.Sort.ahead, Array.getElem?_modify, hh, onCells]
  have hrow : ∀ k j, k < l.length → j < sz → (flatK enc sz d').toList.getD (k * sz + j) undef = (enc d'[k]!).getD j undef := fun k j hk' hj => flat_get enc sz hk d' k j (by rw [hd's]; exact hk') hj
  refine ⟨_, v, (flatK enc sz d').toList, rfl, hgb, ⟨by rw [Array.length_toList, hFs, List.length_map, hl'len], Or.inr ⟨blk, cap, _, ?_, hbb, hheap, ?_, hm, ?_, ?_⟩⟩, fun _ => rfl, fun b hb => Or.inl hb, fun k hk' => ?_, fun k hk' j hj => ?_, fun u hu => ?_, fun γ' _ => .tup #[] rfl (fun i hi => absurd hi (by simp))⟩
  · rw [List.length_map, hl'len, hv, hlm]
  · rw [List.length_map, hl'len]; rw [hlm] at hn; exact hn
  · simp [putCells, hs]
  · rw [List.length_map, hl'len, ← hFs]
    exact take_put _ _ (by rw [hFs]; exact hcap)
  · rw [List.getElem_map]
    obtain ⟨cs, hcs, hcl⟩ := hagg (l'[k]'(by simpa using hk'))
    rw [hcs]; exact hcl
  · have hk2 : k < l'.length := by simpa using hk'
    obtain ⟨hkd, hlk⟩ := hl'k k hk2
    have e : (l'.map encT)[k] = encT d'[k].1.2 := by rw [List.getElem_map, hlk]
    simp only [e] at hj ⊢
    obtain ⟨cs, hcs, hcl⟩ := hagg d'[k].1.2
    have hj2 : j < sz := by rw [hcs] at hj; simp only [AV.cells] at hj; omega
    rw [hrow k j (by omega) hj2, getElem!_pos d' k hkd]
    have hrep := d'[k].2.2.2
    rw [hcs] at hrep
    obtain ⟨vs', hvs', hvl, hvr, _⟩ := hrep.agg_inv
    injection hvs' with hvs'
    subst hvs'
    have := hvr j (by omega)
    simp only [hcs, AV.cells]
    rw [Array.getD_eq_getD_getElem?, List.getElem?_toArray, ← List.getD_eq_getElem?_getD] at this
    refine this.mono hgb.size (fun b hS hb => ⟨hgb.block b hb (fun e => hnS b e.symm hS), Or.inl hS, fun e => hnS b e hS⟩)
  · obtain ⟨q, hq, rfl⟩ := List.mem_iff_getElem.1 hu
    have hq' : q < l.length * sz := by rw [Array.length_toList, hFs] at hq; exact hq
    have hqd : q / sz < l.length := Nat.div_lt_of_lt_mul (by rwa [Nat.mul_comm] at hq')
    have hm := Nat.mod_lt q hsz
    have := hrow (q / sz) (q % sz) hqd hm
    have ej : q / sz * sz + q % sz = q := by rw [Nat.mul_comm]; exact Nat.div_add_mod q sz
    rw [ej, List.getD_eq_getElem?_getD, List.getElem?_eq_getElem hq, Option.getD_some] at this
    rw [this]
    have hl2 := hk d'[q / sz]!
    rw [List.getD_eq_getElem?_getD, List.getElem?_eq_getElem (by omega), Option.getD_some]
    exact (d'[q / sz]!).2.2.1 _ (List.getElem_mem _)
end
end Go.Proofs.Ytdbapaofibgfcaa
namespace Go.Proofs.Ytdbapaofibgfcaa
open Go.RowKit
theorem revEv_con {n : Nat} {l l' : List T_api_Event} (hF : F_rev n l = some l') : ConC true E0 37 [.row 0] 51 5 (l.map e_api_Event) 51 5 (l'.map e_api_Event) (.tup []) :=
  rev_gen (enters_of Try.func37 rfl rfl) (by omega) (fun x => ⟨_, rfl, rfl⟩)
    (fun α _ enc hk h1 blk off cap d w hH hsz => AnyQ.slices_Reverse Try.laysSlE35_f37 5 Try.isAgg51 Try.sizeOf51 enc hk h1 blk off cap d w hH hsz)
    (fun p cap w => AnyQ.slices_Reverse_empty Try.laysSlE35_f37 p cap w) hF
end Go.Proofs.Ytdbapaofibgfcaa
