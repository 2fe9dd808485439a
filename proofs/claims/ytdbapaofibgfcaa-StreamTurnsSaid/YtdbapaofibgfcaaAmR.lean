/- The abstract walk, before its evaluator: an own row cut to its beginning; cap and parts of a nil slice. -/
import Derived.Test.YtdbapaofibgfcaaMapF
set_option linter.unusedVariables false
set_option linter.unusedSimpArgs false
namespace Go.Proofs.Ytdbapaofibgfcaa
open Go.RowKit
theorem ownsRow_cut {w : World} {base e sz n h : Nat} {g cap : Nat} {vs : List Value} (hown : w.ownsRow base e sz (.slice (some ⟨g, 0, none⟩) n cap) n vs) (hh : h ≤ n) : w.ownsRow base e sz (.slice (some ⟨g, 0, none⟩) h cap) h (vs.take (h * sz)) := by
  obtain ⟨h1, h2⟩ := hown
  have hle : h * sz ≤ n * sz := Nat.mul_le_mul_right _ hh
  refine ⟨by rw [List.length_take]; omega, ?_⟩
  rcases h2 with ⟨hv, _⟩ | ⟨g', cap', cur, hv, hb, hc, hn, hm, hs, ht⟩
  · cases hv
  · injection hv with hv _ hcap
    injection hv with hv
    injection hv with hv
    subst hv
    subst hcap
    refine Or.inr ⟨g, cap, cur, rfl, hb, hc, by omega, hm, hs, ?_⟩
    rw [← ht, List.take_take, Nat.min_eq_left hle]
section
variable {cx : Cx} {o : Oper} {σ : AS}
theorem bound_run {σ τ : AS} {γ : Gam} {a : Act} {w : World} {n m : Nat} {hi : Option Operand} (hst : StG cx γ τ a w) (hhi : opdO hi = true) (h1 : ∀ y, hi = some y → τ.eval y = σ.eval y) (h2 : bndA σ n hi = some (m : Int)) (c : Nat) (code : BoundsCode) (hc : m ≤ c) :
    (match hi.map a.eval with | some v => Instr.sliceBound v c code | none => pure n : Sem Nat).run cx.P w = .ok m w := by
  cases hi with
  | none => simp only [bndA, Option.some.injEq] at h2; have : n = m := by omega
            simp [this]
  | some y =>
    have he := hst.ev y hhi
    rw [h1 y rfl] at he
    simp only [bndA] at h2
    cases hy : σ.eval y with
    | int k q =>
      rw [hy] at he h2
      simp only [Option.some.injEq] at h2
      subst h2
      simp only [Option.map_some, he.int_inv]
      exact run_bound k m c _ hc
    | _ => rw [hy] at h2; simp at h2
theorem bounds_run {σ τ : AS} {γ : Gam} {a : Act} {w : World} {n l h c : Nat} {lo hi : Option Operand} (hst : StG cx γ τ a w) (hlo : opdO lo = true) (hhi : opdO hi = true) (e1 : ∀ y, lo = some y → τ.eval y = σ.eval y) (e2 : ∀ y, hi = some y → τ.eval y = σ.eval y)
    (h1 : bndA σ 0 lo = some (l : Int)) (h2 : bndA σ n hi = some (h : Int)) (hlh : l ≤ h) (hh : h ≤ c) : (Instr.sliceBounds true n c (lo.map a.eval) (hi.map a.eval) none).run cx.P w = .ok (l, h, c) w := by
  have b1 := bound_run hst hhi e2 h2 c .sliceAcap hh
  have b2 := bound_run hst hlo e1 h1 h .sliceB hlh
  unfold Instr.sliceBounds
  cases hq : hi.map a.eval with
  | none =>
    rw [hq] at b1
    simp only [Sem.run_pure, Result.ok.injEq, and_true] at b1
    subst b1
    cases hlo' : lo.map a.eval with
    | none => rw [hlo'] at b2; simp only [Sem.run_pure, Result.ok.injEq, and_true] at b2 ⊢; simp [b2]
    | some v => rw [hlo'] at b2; simp only [Option.isSome_none, Bool.false_eq_true, if_false, Sem.run_bind, Sem.run_pure, b2, Result.andThen_ok]
  | some v =>
    rw [hq] at b1
    simp only [if_true, Sem.run_bind, Sem.run_pure, Result.andThen_ok, b1] at b1 ⊢
    cases hlo' : lo.map a.eval with
    | none => rw [hlo'] at b2; simp only [Sem.run_pure, Result.ok.injEq, and_true] at b2 ⊢; simp [b2]
    | some v => rw [hlo'] at b2; simp only [Option.isSome_none, Bool.false_eq_true, if_false, Sem.run_bind, Sem.run_pure, b2, Result.andThen_ok]
theorem slice_mem {T : Nat} {x : Operand} {lo hi : Option Operand} (ho : o.op = .slice T x lo hi none) : x ∈ o.op.operands ∧ (∀ y, lo = some y → y ∈ o.op.operands) ∧ ∀ y, hi = some y → y ∈ o.op.operands := by
  refine ⟨by simp [ho, Op.operands], fun y hy => ?_, fun y hy => ?_⟩ <;> subst hy <;> simp [ho, Op.operands]
theorem r_slice_nils {T e esz eb : Nat} {x : Operand} {lo hi : Option Operand} {i : TyI} (ho : o.op = .slice T x lo hi none) (hd : dok cx o = true) (hxo : opdOk x = true) (hlo : opdO lo = true) (hhi : opdO hi = true) (hx : σ.eval x = .nils) (hT : lkT cx.E.tab T = some i) (hs : i.shape = .slc e esz eb) (hz : esz ≠ 0)
    (h1 : bndA σ 0 lo = some 0) (h2 : bndA σ 0 hi = some 0) : OpRule cx o σ .nils [] [] :=
  rule_val hd fun τ γ a w hh1 hh2 hst => by
    obtain ⟨m1, m2, m3⟩ := slice_mem ho
    have hev := hst.ev x hxo
    rw [hh1 x m1, hx] at hev
    obtain ⟨hu, hce, _⟩ := und_slc (cx.E.ok T i hT) hs
    have hsz := size_of_cells hce hz w
    have hB := bounds_run (σ := σ) (l := 0) (h := 0) (c := 0) (n := 0) hst hlo hhi (fun y hy => hh1 y (m2 y hy)) (fun y hy => hh1 y (m3 y hy)) h1 h2 (Nat.le_refl _) (Nat.le_refl _)
    refine ⟨.slice none 0 0, ?_, .nils⟩
    simp [execOp, ho, hev.nils_inv, Instr.sliceAt, Instr.slice, run_underlying hu, hB, hsz, pure]
theorem r_cap_nils {T e esz eb : Nat} {x : Operand} {i : TyI} (ho : o.op = .call { callee := .builtin .cap, args := #[x], argTypes := #[T] }) (hd : dok cx o = true) (hxo : opdOk x = true) (hx : σ.eval x = .nils) (hT : lkT cx.E.tab T = some i) (hs : i.shape = .slc e esz eb) : OpRule cx o σ (.int .i64 0) [] [] :=
  rule_val hd fun τ γ a w h1 h2 hst => by
    have hev := hst.ev x hxo
    rw [h1 x (by simp [ho, Op.operands, Call.operands]), hx] at hev
    obtain ⟨hu, _, _⟩ := und_slc (cx.E.ok T i hT) hs
    exact ⟨.int .i64 0, by simp [execOp, ho, resolve, invoke, builtin, Builtin.cap_, hev.nils_inv, run_underlying hu, goInt, pure], .int _ _⟩
/-- The beginning of an own row takes its place. -/
theorem r_slice_row {T e esz eb ty id d h : Nat} {x : Operand} {lo hi : Option Operand} {i : TyI} {xs : List AV} (ho : o.op = .slice T x lo hi none) (hdst : o.dst = some d) (hd : dok cx o = true) (hxo : opdOk x = true) (hlo : opdO lo = true) (hhi : opdO hi = true) (hx : σ.eval x = .row id) (hT : lkT cx.E.tab T = some i) (hs : i.shape = .slc e esz eb) (hz : esz ≠ 0)
    (hl : σ.find id = some (.row ty esz xs)) (hn : σ.find d = none) (hne : id ≠ d) (h1 : bndA σ 0 lo = some 0) (h2 : bndA σ xs.length hi = some (h : Int)) (hh : h ≤ xs.length) : OpRule cx o σ (.row d) [d, id] [(d, .row ty esz (xs.take h)), (id, .dead)] := by
  refine ⟨fun i e he => ?_, fun τ hh1 hh2 a w Q K ⟨γ, hst⟩ hK => ?_⟩
  · simp only [lkE] at he
    cases hb : Nat.beq d i with
    | true => simp [Nat.eq_of_beq_eq_true hb]
    | false =>
      rw [hb] at he
      cases hb2 : Nat.beq id i with
      | true => simp [Nat.eq_of_beq_eq_true hb2]
      | false => rw [hb2] at he; cases he
  obtain ⟨m1, m2, m3⟩ := slice_mem ho
  have hev := hst.ev x hxo
  rw [hh1 x m1, hx] at hev
  obtain ⟨hu, hce, _⟩ := und_slc (cx.E.ok T i hT) hs
  have hsz := size_of_cells hce hz w
  have hme := hst.me id
  rw [hh2 id (by simp), hl] at hme
  obtain ⟨dd, hd', s, us, hde, hone1, hown, hlen, hre, hone⟩ := hme
  subst hde
  have hγd : γ d = none := by have := hst.me d; rw [hh2 d (by simp), hn] at this; exact this
  have hnS : ∀ b, Sg cx.S0 cx.w0.heap.size γ b → s.ownBlock ≠ some b := fun b hb e => by
    have ho' : own γ b := ⟨id, s, by rw [hd', e]⟩
    rcases hb with ⟨_, hb⟩ | ⟨_, hb⟩
    · have := (hst.ge b ho').1.1; omega
    · exact hb ho'
  have hlt : (xs.take h).length = h := by rw [List.length_take]; omega
  -- the slice's form
  have key : ∃ v' us', (Instr.sliceAt T s (lo.map a.eval) (hi.map a.eval) none).run cx.P w = .ok v' w ∧ w.ownsRow cx.w0.heap.size ty esz v' h us' ∧ v'.ownBlock = s.ownBlock ∧ us' = us.take (h * esz) := by
    rcases hown.2 with ⟨hv, h0⟩ | ⟨g, cap, cur, hv, _, _, hn2, _⟩
    · have hx0 : xs.length = 0 := h0
      have hh0 : h = 0 := by omega
      subst hh0
      have hB := bounds_run (σ := σ) (l := 0) (h := 0) (c := 0) (n := 0) hst hlo hhi (fun y hy => hh1 y (m2 y hy)) (fun y hy => hh1 y (m3 y hy)) h1 (by rw [hx0] at h2; exact h2) (Nat.le_refl _) (Nat.le_refl _)
      refine ⟨.slice none 0 0, us.take (0 * esz), ?_, by rw [Nat.zero_mul, List.take_zero]; exact World.ownsRow_nil w _ _ _, by rw [hv], rfl⟩
      rw [hv]
      simp [Instr.sliceAt, Instr.slice, run_underlying hu, hB, hsz, pure]
    · have hB := bounds_run (σ := σ) (l := 0) (h := h) (c := cap) (n := xs.length) hst hlo hhi (fun y hy => hh1 y (m2 y hy)) (fun y hy => hh1 y (m3 y hy)) h1 h2 (Nat.zero_le _) (by omega)
      have hown' := hown
      rw [hv] at hown'
      refine ⟨.slice (some ⟨g, 0, none⟩) h cap, _, ?_, ownsRow_cut hown' hh, by rw [hv]; rfl, rfl⟩
      rw [hv]
      simp [Instr.sliceAt, Instr.slice, run_underlying hu, hB, hsz, pure, Addr.add_lit]
  obtain ⟨v', us', hrun, hown', hvb, hus⟩ := key
  have hex : (execOp a.eval o).run cx.P w = .ok (.value v') w := by
    simp only [execOp, ho, hev.row_inv hd', Option.map_none, Sem.run_bind, hrun, Result.andThen_ok, Sem.run_pure]
  unfold Oper.wp
  rw [hex]
  refine hK _ _ (row_row (v' := v') (us' := us') hst (fun _ => Nat.le_refl _) hd' hγd hne (dok_iff hd) (World.grownBy.refl _ _) (by rw [hlt]; exact hown') (fun b hb => Or.inl (hvb ▸ hb)) (fun k hk => ?_) (fun k hk j hj => ?_) (fun u hu => ?_) (fun γ' hγ' => ?_))
  · rw [List.getElem_take]; exact hlen k _
  · have hk' : k < h := by omega
    have hk2 : k < xs.length := by omega
    simp only [List.getElem_take] at hj ⊢
    have hj' : j < esz := by rw [← hlen k hk2]; exact hj
    have hlt2 : k * esz + j < h * esz := by
      have : (k + 1) * esz ≤ h * esz := Nat.mul_le_mul_right _ hk'
      rw [Nat.succ_mul] at this
      omega
    rw [hus, List.getD_eq_getElem?_getD, List.getElem?_take_of_lt hlt2, ← List.getD_eq_getElem?_getD]
    exact (hre k hk2 j hj).mono (Nat.le_refl _) (fun b hb _ => ⟨rfl, Or.inl hb, by rw [hvb]; exact hnS b hb⟩)
  · rw [hus] at hu; exact hone u (List.mem_of_mem_take hu)
  · exact .row hγ' (fun g s e => by injection e with e; injection e with _ e)
end
end Go.Proofs.Ytdbapaofibgfcaa
