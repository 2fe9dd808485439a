/- The abstract walk, ninth part: append, make, stores into rows, calls. -/
import Derived.Test.YtdbapaofibgfcaaAmH
set_option linter.unusedVariables false
set_option linter.unusedSimpArgs false
namespace Go.Proofs.Ytdbapaofibgfcaa
open Go.RowKit

theorem TyOk.both {P : Program} {T : TypeId} {i : TyI} (h : TyOk P T i) : ∃ x, P.info? T = some x ∧ x.size = i.sz ∧ x.bytes = i.bytes ∧ x.zero = some i.zero := by
  have h1 := h.info
  have h2 := h.zero
  cases hq : P.info? T with
  | none => rw [hq] at h1; simp at h1
  | some x => rw [hq] at h1 h2; simp at h1 h2; exact ⟨x, rfl, h1.1, h1.2, h2⟩
theorem run_append_real {P : Program} {w : World} {base T e ty n m c sz : Nat} {ie : TyI} {v : Value} {A : Option Addr} {vs news : List Value} (hu : P.underlying T = some (.slice e)) (he : TyOk P e ie) (hsz : ie.sz = sz) (hz : sz ≠ 0) (hzs : ie.zero.cells.size = sz)
    (hown : w.ownsRow base e sz v n vs) (hA : 0 < m → ∃ b off, A = some ⟨b, off, none⟩ ∧ ∀ j u, news[j]? = some u → w.cell? ⟨b, off + j, none⟩ = some u) (hl : news.length = m * sz) (h1 : ∀ u ∈ news, u.oneCell' = true)
    (h63 : n + m ≤ maxLen) (hby : (n + m) * ie.bytes ≤ 140737488355328) (hbase : base ≤ w.heap.size) :
    ∃ v' w', (Builtin.append_ #[T, T] ty #[v, .slice A m c]).run P w = .ok v' w' ∧ w'.ownsRow base e sz v' (n + m) (vs ++ news) ∧ w.grownBy w' v.ownBlock ∧ (v'.ownBlock = v.ownBlock ∨ v'.ownBlock = some w.heap.size) := by
  obtain ⟨i, hi, hi1, hi2, hi3⟩ := he.both
  rcases Nat.eq_zero_or_pos m with h0 | h0
  · subst h0
    have hn : news = [] := List.length_eq_zero_iff.1 (by rw [hl]; simp)
    subst hn
    refine ⟨v, w, ?_, by simpa using hown, World.grownBy.refl w _, .inl rfl⟩
    have hf : (Builtin.firstCells i.size 0 (.slice A 0 c)).run P w = .ok #[] w := by
      cases A <;> simp [Builtin.firstCells, loadCells, loadCellsFrom, pure]
    rcases hown.2 with ⟨rfl, h0⟩ | ⟨g, cap, cur, rfl, _, _, hnc, _⟩
    · simp [Builtin.append_, run_underlying hu, Go.sizeOf, typeInfo, hi, Builtin.lenOf, hf]
    · simp [Builtin.append_, run_underlying hu, Go.sizeOf, typeInfo, hi, Builtin.lenOf, hf, hnc, storeCells]
  · obtain ⟨b, off, rfl, hcell⟩ := hA h0
    obtain ⟨v', w', hrun, q1, q2, _, q3⟩ := run_append_own_at (P := P) w base T ty e i ie.zero sz ie.bytes hu hi hi3 (hi1.trans hsz) hi2 hzs (by omega) v n vs hown ⟨b, off, none⟩ m c news hl (fun j u hj => by rw [Addr.add_lit]; exact hcell j u hj) h1 h63 hby hbase
    exact ⟨v', w', hrun, q1, q2, q3⟩
theorem slice_one {w : World} {base e sz n : Nat} {v : Value} {vs : List Value} (h : w.ownsRow base e sz v n vs) : v.oneCell' = true := by
  rcases h.2 with ⟨rfl, _⟩ | ⟨g, cap, cur, rfl, _⟩ <;> rfl

def deadOf : Option Nat → List (Nat × Ent)
  | none => []
  | some id => [(id, .dead)]
section
variable {cx : Cx} {o : Oper} {σ : AS}

theorem r_append {T d e sz eb : Nat} {x y : Operand} {i ie : TyI} {xs ys : List AV} {oid : Option Nat} (ho : o.op = .call { callee := .builtin .append, args := #[x, y], argTypes := #[T, T] }) (hdst : o.dst = some d) (hd : dok cx o = true) (hxo : opdOk x = true) (hyo : opdOk y = true)
    (hT : lkT cx.E.tab T = some i) (hs : i.shape = .slc e sz eb) (he : lkT cx.E.tab e = some ie) (hsz : ie.sz = sz) (hz : sz ≠ 0) (hzs : ie.zero.cells.size = sz)
    (hx : (σ.eval x = .nils ∧ oid = none ∧ xs = []) ∨ ∃ id, σ.eval x = .row id ∧ oid = some id ∧ id ≠ d ∧ σ.find id = some (.row e sz xs)) (hy : σ.eval y = .sl sz ys ∨ (σ.eval y = .nils ∧ ys = [])) (hn : σ.find d = none)
    (h63 : xs.length + ys.length ≤ 1099511627776) (hby : (xs.length + ys.length) * ie.bytes ≤ 140737488355328)
    (hdr0 : cx.E.dr = false) : OpRule cx o σ (.row d) (d :: oid.toList) ((d, .row e sz (xs ++ ys)) :: deadOf oid) := by
  have hdead : ∀ id, lkE (deadOf oid) id = if oid = some id then some .dead else none := fun id => by
    cases oid with
    | none => simp [deadOf, lkE]
    | some j =>
      simp only [deadOf, lkE, Option.some.injEq]
      by_cases h : j = id
      · subst h; simp
      · rw [if_neg h]
        cases hb : Nat.beq j id with
        | true => exact absurd (Nat.eq_of_beq_eq_true hb) h
        | false => rfl
  have hwr : ∀ id, lkE ((d, Ent.row e sz (xs ++ ys)) :: deadOf oid) id = if d = id then some (.row e sz (xs ++ ys)) else if oid = some id then some .dead else none := fun id => by
    simp only [lkE]
    by_cases h : d = id
    · subst h; simp
    · rw [if_neg h, ← hdead]
      cases hb : Nat.beq d id with
      | true => exact absurd (Nat.eq_of_beq_eq_true hb) h
      | false => rfl
  refine ⟨fun id e' he' => ?_, fun τ h1 h2 a w Q K ⟨γ, hst⟩ hK => ?_⟩
  · rw [hwr] at he'
    by_cases h : d = id
    · simp [h]
    · rw [if_neg h] at he'
      by_cases h' : oid = some id
      · simp [h']
      · rw [if_neg h'] at he'; cases he'
  have hevx := hst.ev x hxo
  rw [h1 x (by simp [ho, Op.operands, Call.operands])] at hevx
  have hevy := hst.ev y hyo
  rw [h1 y (by simp [ho, Op.operands, Call.operands])] at hevy
  obtain ⟨hu, hce, _⟩ := und_slc (cx.E.ok T i hT) hs
  have hγd : γ d = none := by have := hst.me d; rw [h2 d (by simp), hn] at this; exact this
  have hsize := hst.below.size
  -- the row that is appended to
  have hX : ∃ vs : List Value, w.ownsRow cx.w0.heap.size e sz (a.eval x) xs.length vs ∧ (∀ k (hk : k < xs.length), (xs[k]).cells.length = sz) ∧ (∀ k (hk : k < xs.length) j (hj : j < (xs[k]).cells.length), Rep w (Sg cx.S0 cx.w0.heap.size γ) G0 ((xs[k]).cells[j]) (vs.getD (k * sz + j) undef)) ∧ (∀ u ∈ vs, u.oneCell' = true) ∧
      (∀ g, (a.eval x).ownBlock = some g → ∃ id s, oid = some id ∧ γ id = some (some (some g, s))) := by
    rcases hx with ⟨hx, rfl, rfl⟩ | ⟨id, hx, rfl, hne, hl⟩
    · rw [hx] at hevx
      rw [hevx.nils_inv]
      exact ⟨[], World.ownsRow_nil w _ _ _, fun k hk => absurd hk (by simp), fun k hk => absurd hk (by simp), fun u hu => absurd hu (by simp), fun g hg => by simp [Value.ownBlock] at hg⟩
    · rw [hx] at hevx
      have hme := hst.me id
      rw [h2 id (by simp), hl] at hme
      obtain ⟨dd, hd', s, vs, hde, _, hown, hlen, hr, hone⟩ := hme
      subst hde
      have ex := hevx.row_inv hd'
      rw [ex]
      exact ⟨vs, hown, hlen, hr, hone, fun g hg => ⟨id, s, rfl, by rw [hd', hg]⟩⟩
  obtain ⟨vs, hown, hlenx, hrx, honex, hblock⟩ := hX
  -- what is appended
  have hY : ∃ (A : Option Addr) (c : Nat) (news : List Value), a.eval y = .slice A ys.length c ∧ news.length = ys.length * sz ∧ (0 < ys.length → ∃ b off, A = some ⟨b, off, none⟩ ∧ ∀ j u, news[j]? = some u → w.cell? ⟨b, off + j, none⟩ = some u) ∧ (∀ u ∈ news, u.oneCell' = true) ∧
      (∀ k (hk : k < ys.length), (ys[k]).cells.length = sz) ∧ (∀ k (hk : k < ys.length) j (hj : j < (ys[k]).cells.length), Rep w (Sg cx.S0 cx.w0.heap.size γ) G0 ((ys[k]).cells[j]) (news.getD (k * sz + j) undef)) := by
    rcases hy with hy | ⟨hy, rfl⟩
    · rw [hy] at hevy
      obtain ⟨A, c, ey, hc, hlen, cell, hb, hr, h1c⟩ := hevy.sl_inv
      refine ⟨A, c, (List.range (ys.length * sz)).map (fun q => cell (q / sz) (q % sz)), ey, by simp, fun h0 => ?_, fun u hu => ?_, hlen, fun k hk j hj => ?_⟩
      · obtain ⟨b, off, rfl, hS, hlt, hcell⟩ := hb h0
        refine ⟨b, off, rfl, fun j u hj => ?_⟩
        obtain ⟨hj1, hj2⟩ := List.getElem?_eq_some_iff.1 hj
        simp only [List.length_map, List.length_range] at hj1
        simp only [List.getElem_map, List.getElem_range] at hj2
        have hq : j / sz < ys.length := (Nat.div_lt_iff_lt_mul (by omega)).2 hj1
        have hm : j % sz < sz := Nat.mod_lt _ (by omega)
        have := hcell (j / sz) (j % sz) hq hm
        rw [show j / sz * sz + j % sz = j by rw [Nat.mul_comm]; exact Nat.div_add_mod j sz] at this
        rw [this, hj2]
      · obtain ⟨q, _, rfl⟩ := List.mem_map.1 hu
        exact h1c _ _
      · have hj' : j < sz := by rw [← hlen k hk]; exact hj
        have hlt : k * sz + j < ys.length * sz := by
          have : (k + 1) * sz ≤ ys.length * sz := Nat.mul_le_mul_right _ hk
          rw [Nat.succ_mul] at this
          omega
        have hq : (k * sz + j) / sz = k := by rw [Nat.mul_comm, Nat.mul_add_div (by omega), Nat.div_eq_of_lt hj', Nat.add_zero]
        have hmod : (k * sz + j) % sz = j := by rw [Nat.mul_comm, Nat.mul_add_mod, Nat.mod_eq_of_lt hj']
        have : ((List.range (ys.length * sz)).map (fun q => cell (q / sz) (q % sz))).getD (k * sz + j) undef = cell k j := by
          rw [List.getD_eq_getElem?_getD, List.getElem?_map, List.getElem?_range hlt]
          simp [hq, hmod]
        rw [this]
        exact hr k hk j hj
    · rw [hy] at hevy
      exact ⟨none, 0, [], hevy.nils_inv, by simp, fun h => absurd h (by simp), fun u hu => absurd hu (by simp), fun k hk => absurd hk (by simp), fun k hk => absurd hk (by simp)⟩
  obtain ⟨A, c, news, ey, hnl, hA, hone2, hleny, hry⟩ := hY
  obtain ⟨v', w', hrun, q1, q2, q3⟩ := run_append_real (P := cx.P) (c := c) (ty := o.type) hu (cx.E.ok e ie he) hsz hz hzs hown hA hnl hone2 (by simp only [maxLen]; omega) hby hsize
  have hex : (execOp a.eval o).run cx.P w = .ok (.value v') w' := by
    simp only [execOp, ho, resolve, invoke, builtin, Sem.run_bind, Sem.run_pure, Result.andThen_ok, List.map_toArray, List.map_cons, List.map_nil, ey, hrun]
  unfold Oper.wp
  rw [hex]
  have hv1 : v'.oneCell' = true := slice_one q1
  let γ' : Gam := fun id => if d = id then some (some (v'.ownBlock, v')) else if oid = some id then some none else γ id
  have hγ'd : γ' d = some (some (v'.ownBlock, v')) := if_pos rfl
  have hγ'o : ∀ id, d ≠ id → oid ≠ some id → γ' id = γ id := fun id h1 h2 => by show (if d = id then _ else if oid = some id then _ else γ id) = γ id; rw [if_neg h1, if_neg h2]
  have hγ'x : ∀ id, d ≠ id → oid = some id → γ' id = some none := fun id h1 h2 => by show (if d = id then _ else if oid = some id then _ else γ id) = some none; rw [if_neg h1, if_pos h2]
  have hown' : ∀ b, own γ' b → v'.ownBlock = some b ∨ own γ b := fun b ⟨id, s, hi⟩ => by
    by_cases h : d = id
    · subst h; rw [hγ'd] at hi; injection hi with hi; injection hi with hi; injection hi with hi _; exact Or.inl hi
    · by_cases h' : oid = some id
      · rw [hγ'x id h h'] at hi; cases hi
      · rw [hγ'o id h h'] at hi; exact Or.inr ⟨id, s, hi⟩
  have hvb : ∀ b, v'.ownBlock = some b → (own γ b ∧ (a.eval x).ownBlock = some b) ∨ b = w.heap.size := fun b hb => by
    rcases q3 with q3 | q3
    · rw [q3] at hb
      obtain ⟨id, s, _, hi⟩ := hblock b hb
      exact Or.inl ⟨⟨id, s, hi⟩, hb⟩
    · rw [q3] at hb; injection hb with hb; exact Or.inr hb.symm
  have hk : ∀ b, Sg cx.S0 cx.w0.heap.size γ b → b < w.heap.size → w'.heap[b]? = w.heap[b]? ∧ Sg cx.S0 cx.w0.heap.size γ' b := fun b hS hlt => by
    have hno : ¬ own γ b := by
      rcases hS with ⟨_, h⟩ | ⟨_, h⟩
      · intro hb; have := (hst.ge b hb).1.1; omega
      · exact h
    refine ⟨q2.block b hlt (fun e => ?_), ?_⟩
    · obtain ⟨id, s, _, hi⟩ := hblock b e.symm
      exact hno ⟨id, s, hi⟩
    · rcases hS with hS | ⟨hB, _⟩
      · exact Or.inl hS
      · refine Or.inr ⟨hB, fun ho' => ?_⟩
        rcases hown' b ho' with h | h
        · rcases hvb b h with ⟨h, _⟩ | h
          · exact hno h
          · omega
        · exact hno h
  have hmv : ∀ {av v}, Rep w (Sg cx.S0 cx.w0.heap.size γ) G0 av v → Rep w' (Sg cx.S0 cx.w0.heap.size γ') G0 av v := fun h => h.mono q2.size hk
  refine hK _ _ ⟨γ', ?_⟩
  rw [hdst]
  refine hst.step (γ' := γ') (fun x hx => by injection hx with hx; subst hx; exact dok_iff hd _ hdst) q2.size hk (fun id x hid => ?_) (fun id hid => ?_) (fun id e' hid => ?_) (fun id id' b s s' hi hi' => ?_) (fun b hb => ?_) ?_ (.row hγ'd (fun g s e => by injection e with e; injection e with e e2)) (fun b hno hlt => ⟨q2.block b hlt (fun e => by obtain ⟨id, s, _, hi⟩ := hblock b e.symm; exact hno ⟨id, s, hi⟩), fun ho' => by
    rcases hown' b ho' with h | h
    · rcases hvb b h with ⟨h, _⟩ | h
      · exact hno h
      · omega
    · exact hno h⟩) (fun h => absurd (hdr0.symm.trans h) (by simp))
  · by_cases h : d = id
    · subst h; rw [hγd] at hid; cases hid
    · by_cases h' : oid = some id
      · exact Or.inr (hγ'x id h h')
      · exact Or.inl (by rw [hγ'o id h h']; exact hid)
  · rw [hwr] at hid
    by_cases h : d = id
    · rw [if_pos h] at hid; cases hid
    · rw [if_neg h] at hid
      by_cases h' : oid = some id
      · rw [if_pos h'] at hid; cases hid
      · refine ⟨hγ'o id h h', fun g s hg => q2.block g (hst.ge g ⟨id, s, hg⟩).2 (fun e => ?_)⟩
        obtain ⟨id0, s0, h0, hi0⟩ := hblock g e.symm
        have := hst.inj _ _ _ _ _ hg hi0
        subst this
        exact h' h0
  · rw [hwr] at hid
    by_cases h : d = id
    · subst h
      rw [if_pos rfl] at hid
      injection hid with hid
      subst hid
      refine ⟨_, hγ'd, v', vs ++ news, rfl, hv1, by rw [List.length_append]; exact q1, fun k hk => ?_, fun k hk j hj => ?_, fun u hu => (List.mem_append.1 hu).elim (honex u) (hone2 u)⟩
      · rw [List.getElem_append]
        split
        · exact hlenx k _
        · exact hleny _ _
      · rw [List.length_append] at hk
        have hvl : vs.length = xs.length * sz := hown.1
        by_cases hkx : k < xs.length
        · simp only [List.getElem_append_left hkx] at hj ⊢
          have hj' : j < sz := by rw [← hlenx k hkx]; exact hj
          have hlt : k * sz + j < vs.length := by
            have : (k + 1) * sz ≤ xs.length * sz := Nat.mul_le_mul_right _ hkx
            rw [Nat.succ_mul] at this
            omega
          rw [List.getD_eq_getElem?_getD, List.getElem?_append_left hlt, ← List.getD_eq_getElem?_getD]
          exact hmv (hrx k hkx j hj)
        · have hkx' : xs.length ≤ k := by omega
          simp only [List.getElem_append_right hkx'] at hj ⊢
          have hlt : vs.length ≤ k * sz + j := by
            have : xs.length * sz ≤ k * sz := Nat.mul_le_mul_right _ hkx'
            omega
          rw [List.getD_eq_getElem?_getD, List.getElem?_append_right hlt, ← List.getD_eq_getElem?_getD]
          rw [show k * sz + j - vs.length = (k - xs.length) * sz + j by
            rw [hvl, Nat.sub_mul]
            have : xs.length * sz ≤ k * sz := Nat.mul_le_mul_right _ hkx'
            omega]
          exact hmv (hry (k - xs.length) (by omega) j hj)
    · rw [if_neg h] at hid
      by_cases h' : oid = some id
      · rw [if_pos h'] at hid
        injection hid with hid
        subst hid
        exact ⟨none, hγ'x id h h', rfl⟩
      · rw [if_neg h'] at hid; cases hid
  · have key : ∀ id id' b s s', d = id → d ≠ id' → γ' id = some (some (some b, s)) → γ' id' = some (some (some b, s')) → False := fun id id' b s s' h h' hi hi' => by
      subst h
      rw [hγ'd] at hi
      injection hi with hi; injection hi with hi; injection hi with hi _
      by_cases ho' : oid = some id'
      · rw [hγ'x id' h' ho'] at hi'; cases hi'
      · rw [hγ'o id' h' ho'] at hi'
        rcases hvb b hi with ⟨_, hb⟩ | hb
        · obtain ⟨id0, s0, h0, hi0⟩ := hblock b hb
          have := hst.inj _ _ _ _ _ hi' hi0
          subst this
          exact ho' h0
        · have := (hst.ge b ⟨id', s', hi'⟩).2
          omega
    by_cases h : d = id
    · by_cases h' : d = id'
      · rw [← h, ← h']
      · exact (key id id' b s s' h h' hi hi').elim
    · by_cases h' : d = id'
      · exact (key id' id b s' s h' h hi' hi).elim
      · by_cases ho1 : oid = some id
        · rw [hγ'x id h ho1] at hi; cases hi
        · by_cases ho2 : oid = some id'
          · rw [hγ'x id' h' ho2] at hi'; cases hi'
          · rw [hγ'o id h ho1] at hi
            rw [hγ'o id' h' ho2] at hi'
            exact hst.inj _ _ _ _ _ hi hi'
  · rcases hown' b hb with h | h
    · rcases hvb b h with ⟨h, _⟩ | h'
      · exact ⟨(hst.ge b h).1, Nat.lt_of_lt_of_le (hst.ge b h).2 q2.size⟩
      · refine ⟨⟨by omega, fun h0 => by have := hst.gh _ h0; omega⟩, ?_⟩
        rcases q1.2 with ⟨hv, _⟩ | ⟨g, cap, cur, hv, _, hh, _⟩
        · rw [hv] at h; simp [Value.ownBlock] at h
        · rw [hv] at h; simp only [Value.ownBlock, Option.some.injEq] at h; subst h
          exact (Array.getElem?_eq_some_iff.1 hh).1
    · exact ⟨(hst.ge b h).1, Nat.lt_of_lt_of_le (hst.ge b h).2 q2.size⟩
  · refine hst.below.trans ⟨q2.os, q2.tape, q2.output, q2.size, fun k hk => q2.block k (by omega) (fun e => ?_)⟩
    obtain ⟨id, s, _, hi⟩ := hblock k e.symm
    have := (hst.ge k ⟨id, s, hi⟩).1.1
    omega
end
end Go.Proofs.Ytdbapaofibgfcaa
