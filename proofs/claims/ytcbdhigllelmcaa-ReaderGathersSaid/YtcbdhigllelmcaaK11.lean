/- Chapter 47, plain: hashes, keys, key groups, items (both). Nothing: a name for the printed definitions. Chapter 36, plain: what the terms of Check, Global, Missing, Begin, Same come to. Chapter 36, plain: Missing, Begin, Same, SameBools, SameGaps, Few. Chapter 36, plain: CheckMessage; layer 34's place, has, with, Receive; Settled. Chapter 36, plain: Receive of layer 34 (both), Settled, a message noted by a tracker (both). Chapter 36, plain: a message received (both), and that trackers stay well-formed. Chapter 36, plain: Receive, Begin and Run (both). Chapter 36, plain: the laws that compare, and that the program is awake. Chapter 36, plain: what one message does to a tracker; the laws Completes and Fills. Chapter 36, plain: the law Fills. Chapter 36, plain: the law Commutes. Chapter 47, plain: reading, replaying (both). -/
import Derived.Test.YtcbdhigllelmcaaK10
import Derived.Test.YtcbdhigllelmcaaK09
set_option linter.unusedVariables false
set_option linter.unusedSimpArgs false
namespace Go.Proofs.Ytcbdhigllelmcaa
open Go.RowKit

theorem w8 (n : Int) : IntKind.u8.wrap n = n % 256 := by simp [IntKind.wrap, IntKind.bits, IntKind.signed]
theorem w32 (n : Int) : IntKind.u32.wrap n = n % 4294967296 := by simp [IntKind.wrap, IntKind.bits, IntKind.signed]
def mixN (h c : Nat) : Nat := (h ^^^ c) * 16777619 % 4294967296
def mixI (h c : Int) : Int := (mixN h.toNat c.toNat : Nat)
theorem mixI_nn (h c : Int) : 0 ≤ mixI h c ∧ mixI h c < 4294967296 := by
  unfold mixI mixN
  have := Nat.mod_lt ((h.toNat ^^^ c.toNat) * 16777619) (show 0 < 4294967296 by decide)
  omega
theorem ofInt_nat (n m : Nat) : BitVec.ofInt n (m : Int) = BitVec.ofNat n m := by
  apply BitVec.eq_of_toNat_eq
  simp [BitVec.toNat_ofInt]
theorem bld_eq {α β : Type} (l : List α) (k : List α → Option β) : bld l k = k l := rfl
theorem bldS_eq {α β : Type} (l : List α) (k : List α → Option β) : bldS l k = k l := rfl
theorem xor_lt {a b n : Nat} (ha : a < 2 ^ n) (hb : b < 2 ^ n) : a ^^^ b < 2 ^ n := Nat.xor_lt_two_pow ha hb
theorem mix32 (h c : Int) (h0 : 0 ≤ h ∧ h < 4294967296) (h1 : 0 ≤ c ∧ c ≤ 255) :
    IntKind.wrap .u32 ((IntKind.wrap .u32 (BitVec.toNat (BitVec.ofInt (IntKind.bits .u32) h ^^^ (BitVec.ofInt (IntKind.bits .u32) (IntKind.wrap .u32 c))) : Int)) * 16777619) = mixI h c := by
  obtain ⟨a, rfl⟩ : ∃ a : Nat, h = (a : Int) := ⟨h.toNat, by omega⟩
  obtain ⟨b, rfl⟩ : ∃ b : Nat, c = (b : Int) := ⟨c.toNat, by omega⟩
  rw [w32 ((b : Nat) : Int), show ((b : Nat) : Int) % 4294967296 = (b : Int) by omega, ofInt_nat, ofInt_nat, BitVec.toNat_xor, BitVec.toNat_ofNat, BitVec.toNat_ofNat]
  rw [Nat.mod_eq_of_lt (show a < 2 ^ IntKind.bits .u32 by simp only [IntKind.bits]; omega), Nat.mod_eq_of_lt (show b < 2 ^ IntKind.bits .u32 by simp only [IntKind.bits]; omega)]
  have hx := xor_lt (n := 32) (show a < 2 ^ 32 by omega) (show b < 2 ^ 32 by omega)
  rw [w32, w32]
  unfold mixI mixN
  simp only [Int.toNat_natCast]
  omega
theorem bytesI_b (s : ByteArray) : ∀ c ∈ bytesI s, 0 ≤ c ∧ c ≤ 255 := fun c hc => by
  unfold bytesI at hc
  obtain ⟨b, _, rfl⟩ := List.mem_map.1 hc
  have := b.toNat_lt
  omega
def shB (x : Int) : Nat → List Int
  | 0 => []
  | k + 1 => IntKind.wrap .u8 (Int.fdiv x (2 ^ (8 * k))) :: shB x k
def bytesV (v : Vl) : List Int := IntKind.wrap .u8 v.fKind :: (if v.fKind = 2 then bytesI v.fText else shB v.fNum 8)
def hashB (h : Int) (l : List Int) : Int := l.foldl mixI h
theorem dec_cons {α : Type} [DecidableEq α] (x y : α) (r s : List α) : decide (x :: r = y :: s) = (decide (x = y) && decide (r = s)) := by simp
def hashV (v : Vl) : Int := hashB 2166136261 (bytesV v)
theorem shB_len (x : Int) : ∀ k, (shB x k).length = k
  | 0 => rfl
  | k + 1 => by simp [shB, shB_len x k]
theorem shB_b (x : Int) : ∀ k, ∀ c ∈ shB x k, 0 ≤ c ∧ c ≤ 255
  | 0, c, h => by simp [shB] at h
  | k + 1, c, h => by
    rw [shB] at h
    rcases List.mem_cons.1 h with rfl | h
    · rw [w8]; omega
    · exact shB_b x k c h
theorem hashB_nn : ∀ (l : List Int) (h : Int), 0 ≤ h ∧ h < 4294967296 → 0 ≤ hashB h l ∧ hashB h l < 4294967296
  | [], h, h0 => h0
  | c :: r, h, h0 => hashB_nn r (mixI h c) (mixI_nn h c)
theorem hashV_nn (v : Vl) : 0 ≤ hashV v ∧ hashV v < 4294967296 := hashB_nn _ _ (by decide)
theorem p_hash_l1 (n : Nat) (x : List Int) (hx : ∀ c ∈ x, 0 ≤ c ∧ c ≤ 255) (hl : x.length ≤ 1000000) (K : Int → Option (Int × Int)) : ∀ (m k : Nat) (h : Int), k ≤ x.length → x.length < m + k → 0 ≤ h ∧ h < 4294967296 → F_value_Hash_l1 n x K m (h, (k : Int)) = K (hashB h (x.drop k))
  | 0, k, h, h1, h2, h0 => by omega
  | m + 1, k, h, h1, h2, h0 => by
    unfold F_value_Hash_l1
    simp only [List.length_map, cnd_if]
    by_cases h3 : k < x.length
    · rw [if_pos (by omega), nat_nat h3, elt_ok h3, mix32 h _ h0 (hx _ (List.getElem_mem h3)), wrapS k (by omega), p_hash_l1 n x hx hl K m (k + 1) _ (by omega) (by omega) (mixI_nn _ _), dropK_cons h3]
      rfl
    · rw [if_neg (by omega), List.drop_eq_nil_of_le (by omega)]; rfl
theorem p_hash_l3 (n : Nat) (x : List Int) (hx : ∀ c ∈ x, 0 ≤ c ∧ c ≤ 255) (hl : x.length ≤ 1000000) (K : Int → Option (Int × Int)) : ∀ (m k : Nat) (h : Int), k ≤ x.length → x.length < m + k → 0 ≤ h ∧ h < 4294967296 → F_value_Hash_l3 n x K m (h, (k : Int)) = K (hashB h (x.drop k))
  | 0, k, h, h1, h2, h0 => by omega
  | m + 1, k, h, h1, h2, h0 => by
    unfold F_value_Hash_l3
    simp only [List.length_map, cnd_if]
    by_cases h3 : k < x.length
    · rw [if_pos (by omega), nat_nat h3, elt_ok h3, mix32 h _ h0 (hx _ (List.getElem_mem h3)), wrapS k (by omega), p_hash_l3 n x hx hl K m (k + 1) _ (by omega) (by omega) (mixI_nn _ _), dropK_cons h3]
      rfl
    · rw [if_neg (by omega), List.drop_eq_nil_of_le (by omega)]; rfl
theorem p_hash_l2 (n : Nat) (v : Vl) (K : List Int → Option (Int × Int)) : ∀ (k m : Nat) (acc : List Int), k < m → k ≤ 8 → acc.length + k ≤ 1000 → F_value_Hash_l2 n v K m (8 * (k : Int) - 8, acc) = K (acc ++ shB v.fNum k)
  | 0, m + 1, acc, h1, h2, h3 => by
    unfold F_value_Hash_l2
    simp only [cnd_if]
    rw [if_neg (by omega), shB, List.append_nil]
  | k + 1, m + 1, acc, h1, h2, h3 => by
    unfold F_value_Hash_l2
    simp only [cnd_if]
    have e : 8 * ((k + 1 : Nat) : Int) - 8 = ((8 * k : Nat) : Int) := by omega
    rw [e, if_pos (by omega), shx_ok (by omega)]
    rw [bldS_eq, app_ok (by simp; omega) (by omega), wrap_in (((8 * k : Nat) : Int) - 8) (by omega), show ((8 * k : Nat) : Int) - 8 = 8 * (k : Int) - 8 by omega, p_hash_l2 n v K k m _ (by omega) (by omega) (by simp only [List.length_append, List.length_cons, List.length_nil]; omega)]
    have e2 : min (Int.toNat ((8 * k : Nat) : Int)) (IntKind.bits .i64) = 8 * k := by simp only [Int.toNat_natCast, IntKind.bits]; omega
    rw [e2, shB, List.append_assoc]
    rfl
theorem valErr_text {v : Vl} (h : valErr v = 0) (h2 : v.fKind = 2) : v.fText.size ≤ 64 := by
  unfold valErr at h
  rw [if_pos h2] at h
  split at h
  · exact absurd h (by decide)
  · split at h
    · exact absurd h (by decide)
    · omega
def hashE (v : Vl) : Int × Int := if valErr v ≠ 0 then (0, valErr v) else (hashV v, 0)
theorem bytesV_b (v : Vl) : ∀ c ∈ bytesV v, 0 ≤ c ∧ c ≤ 255 := fun c hc => by
  unfold bytesV at hc
  rcases List.mem_cons.1 hc with rfl | hc
  · rw [w8]; omega
  · split at hc
    · exact bytesI_b _ _ hc
    · exact shB_b _ _ _ hc
theorem p_hash (n : Nat) (v : Vl) (hn : 100 ≤ n) : F_value_Hash n v = some (hashE v) := by
  unfold F_value_Hash hashE
  rw [p_val, bnd_some]
  simp only [cnd_not, cnd_if]
  by_cases h : valErr v = 0
  · rw [if_pos h, if_nne h]
    rw [bld_eq]
    have hb := bytesV_b v
    have hh := hashV_nn v
    by_cases h2 : v.fKind = 2
    · have ht := valErr_text h h2
      have hz := bytesI_len v.fText
      rw [if_pos h2, app_ok (by simp; omega) (by omega)]
      have e : ([IntKind.wrap .u8 v.fKind] ++ bytesI v.fText : List Int) = bytesV v := by unfold bytesV; rw [if_pos h2]; rfl
      rw [e]
      have hlen : (bytesV v).length ≤ 65 := by rw [← e]; simp; omega
      have := p_hash_l1 n (bytesV v) hb (by omega) (fun y => some (IntKind.wrap .i64 y, 0)) n 0 2166136261 (by omega) (by omega) (by decide)
      simp only [Int.natCast_zero, List.drop_zero] at this
      rw [this]
      unfold hashV at hh ⊢
      rw [wrap_in _ (by omega)]
    · rw [if_neg h2]
      have e : ([IntKind.wrap .u8 v.fKind] ++ shB v.fNum 8 : List Int) = bytesV v := by unfold bytesV; rw [if_neg h2]; rfl
      have hlen : (bytesV v).length ≤ 65 := by rw [← e]; simp [shB_len]
      have h8 := p_hash_l2 n v (fun y => F_value_Hash_l3 n y (fun z => some (IntKind.wrap .i64 z, 0)) n (2166136261, 0)) 8 n [IntKind.wrap .u8 v.fKind] (by omega) (by omega) (by simp only [List.length_cons, List.length_nil]; omega)
      rw [e] at h8
      have := p_hash_l3 n (bytesV v) hb (by omega) (fun y => some (IntKind.wrap .i64 y, 0)) n 0 2166136261 (by omega) (by omega) (by decide)
      simp only [Int.natCast_zero, List.drop_zero] at this
      rw [this] at h8
      unfold hashV at hh ⊢
      rw [wrap_in _ (by omega)] at h8
      exact h8
  · rw [if_neg h, if_pos h]
def grpV (v : Vl) : Int := hashV v % 16
theorem grpV_b (v : Vl) : 0 ≤ grpV v ∧ grpV v ≤ 15 := by unfold grpV; omega
theorem p_group (n : Nat) (v : Vl) (hn : 100 ≤ n) : F_keygroup_Group n v = some (if valErr v ≠ 0 then (0, valErr v) else (grpV v, 0)) := by
  unfold F_keygroup_Group
  rw [p_hash n v hn, bnd_some]
  simp only [cnd_not, cnd_if]
  unfold hashE
  by_cases h : valErr v = 0
  · rw [if_nne h, if_pos rfl, nzx_ok (by decide), if_nne h]
    have := hashV_nn v
    rw [Int.tmod_eq_emod_of_nonneg this.1, grpV]
  · rw [if_pos h, if_neg h, if_pos h]
def ownr (g w : Int) : Int := g * w / 16
theorem mul_b {g w : Int} (hg : 0 ≤ g ∧ g ≤ 15) (hw : 1 ≤ w ∧ w ≤ 8) : 0 ≤ g * w ∧ g * w ≤ 15 * w := ⟨Int.mul_nonneg hg.1 (by omega), Int.mul_le_mul_of_nonneg_right hg.2 (by omega)⟩
theorem ownr_b {g w : Int} (hg : 0 ≤ g ∧ g ≤ 15) (hw : 1 ≤ w ∧ w ≤ 8) : 0 ≤ ownr g w ∧ ownr g w < w := by
  have := mul_b hg hw
  unfold ownr
  omega
theorem own_eq {g w : Int} (hg : 0 ≤ g ∧ g ≤ 15) (hw : 1 ≤ w ∧ w ≤ 8) : IntKind.wrap .i64 ((IntKind.wrap .i64 (g * w)).tdiv 16) = ownr g w := by
  have := mul_b hg hw
  rw [wrap_in (g * w) (by omega), Int.tdiv_eq_ediv_of_nonneg this.1, wrap_in (g * w / 16) (by omega), ownr]
theorem p_allowed (n : Nat) (a b c : Bool) (hn : 10 ≤ n) : F_keygroup_allowed n [a, b, c] = some (if a && (b && c) then 0 else 2) := by
  obtain ⟨m, rfl⟩ : ∃ m, n = m + 4 := ⟨n - 4, by omega⟩
  unfold F_keygroup_allowed
  have e0 : ∀ (f : Bool → Option Int), idx [a, b, c] 0 f = f a := fun f => by unfold idx; rfl
  have e1 : ∀ (f : Bool → Option Int), idx [a, b, c] 1 f = f b := fun f => by unfold idx; rfl
  have e2 : ∀ (f : Bool → Option Int), idx [a, b, c] 2 f = f c := fun f => by unfold idx; rfl
  have w0 : IntKind.wrap .i64 ((0 : Int) + 1) = 1 := rfl
  have w1 : IntKind.wrap .i64 ((1 : Int) + 1) = 2 := rfl
  have w2 : IntKind.wrap .i64 ((2 : Int) + 1) = 3 := rfl
  simp only [F_keygroup_allowed_l1, List.map_cons, List.map_nil, List.length_cons, List.length_nil, cnd_if, e0, e1, e2, w0, w1, w2, cnd_not]
  cases a <;> cases b <;> cases c <;> simp [cnd_t, cnd_f]
theorem p_worker (n : Nat) (g w : Int) (hg : 0 ≤ g ∧ g ≤ 15) (hw : 1 ≤ w ∧ w ≤ 8) (hn : 10 ≤ n) : F_keygroup_Worker n g w = some (ownr g w, 0) := by
  unfold F_keygroup_Worker F_keygroup_number F_keygroup_owner
  simp only [cnd_if]
  rw [if_pos hw.1, bnd_some, p_allowed n _ _ _ hn, decide_eq_true hg.1, decide_eq_true (show g < 16 by omega), decide_eq_true hw.2]
  simp only [Bool.and_self, if_true, bnd_some, cnd_not, decide_true, cnd_t]
  rw [nzx_ok (by decide), own_eq hg hw, bnd_some]

def keysErr : List Int → List Sch → Int
  | k :: r, s :: t => if k < -1 ∨ (s.fFields.length : Int) ≤ k then 16 else keysErr r t
  | _, _ => 0
def keyErr (l : List Sch) (key : List Int) : Int := if key.length = 0 then 0 else if key.length ≠ l.length then 15 else keysErr key l
def zeroV : Vl := ⟨0, 0, ByteArray.empty⟩
def keyOf (key : List Int) (e : Ev47) : Vl × Bool :=
  if key.length = 0 then (zeroV, true) else if key.getD e.fType.toNat 0 < 0 then (zeroV, false) else (e.fValues.getD (key.getD e.fType.toNat 0).toNat zeroV, true)
theorem p_checkKey_l1 (n : Nat) (l : List Sch) (key : List Int) (hl : key.length = l.length) (hk : key.length ≤ 1000000) (K : Option Int) : ∀ (m k : Nat), k ≤ key.length → key.length < m + k →
    F_reader_checkKey_l1 n key l K m (k : Int) = if keysErr (key.drop k) (l.drop k) = 0 then K else some (keysErr (key.drop k) (l.drop k))
  | 0, k, h1, h2 => by omega
  | m + 1, k, h1, h2 => by
    unfold F_reader_checkKey_l1
    simp only [List.length_map, cnd_if]
    by_cases h : k < key.length
    · have h' : k < l.length := by omega
      rw [if_pos (by omega), idx_nat h, idx_nat h', dropK_cons h, dropK_cons h', keysErr, wrapS k (by omega), p_checkKey_l1 n l key hl hk K m (k + 1) (by omega) (by omega)]
      by_cases h3 : key[k] < -1
      · rw [if_pos h3, if_pos (Or.inl h3)]; rfl
      · rw [if_neg h3]
        by_cases h4 : (l[k].fFields.length : Int) ≤ key[k]
        · rw [if_pos h4, if_pos (Or.inr h4)]; rfl
        · rw [if_neg h4, if_neg (show ¬ (key[k] < -1 ∨ (l[k].fFields.length : Int) ≤ key[k]) by omega)]
    · rw [if_neg (by omega), List.drop_eq_nil_of_le (by omega)]; rfl
theorem p_checkKey (n : Nat) (l : List Sch) (key : List Int) (hk : key.length ≤ 1000000) (hn : key.length < n) : F_reader_checkKey n l key = some (keyErr l key) := by
  unfold F_reader_checkKey keyErr
  simp only [List.length_map, cnd_not, cnd_if]
  by_cases h : key.length = 0
  · rw [if_pos (by omega), if_pos h]
  · rw [if_neg (by omega), if_neg h]
    by_cases h2 : key.length = l.length
    · rw [if_pos (by omega), if_nne h2]
      have := p_checkKey_l1 n l key h2 hk (some 0) n 0 (by omega) (by omega)
      simp only [Int.natCast_zero, List.drop_zero] at this
      rw [this]
      split <;> simp_all
    · rw [if_neg (by omega), if_pos h2]
theorem p_key_l1 (n : Nat) (e : Ev47) (l : List Sch) (key : List Int) (hl : key.length = l.length) (hk : key.length ≤ 1000000) (h0 : keysErr key l = 0) (K : Option (Vl × Bool × Int)) : ∀ (m k : Nat), k ≤ key.length → key.length < m + k → keysErr (key.drop k) (l.drop k) = 0 →
    F_event_Key_l1 n e key l K m (k : Int) = K
  | 0, k, h1, h2, h3 => by omega
  | m + 1, k, h1, h2, h3 => by
    unfold F_event_Key_l1
    simp only [List.length_map, cnd_if]
    by_cases h : k < key.length
    · have h' : k < l.length := by omega
      rw [dropK_cons h, dropK_cons h', keysErr] at h3
      rw [if_pos (by omega), idx_nat h, idx_nat h']
      by_cases h4 : key[k] < -1 ∨ (l[k].fFields.length : Int) ≤ key[k]
      · rw [if_pos h4] at h3; exact absurd h3 (by decide)
      · rw [if_neg h4] at h3
        rw [if_neg (by omega), if_neg (by omega), wrapS k (by omega), p_key_l1 n e l key hl hk h0 K m (k + 1) (by omega) (by omega) h3]
    · rw [if_neg (by omega)]
theorem keysErr_at : ∀ {key : List Int} {l : List Sch}, key.length = l.length → keysErr key l = 0 → ∀ i (h : i < key.length) (h' : i < l.length), -1 ≤ key[i] ∧ key[i] < (l[i].fFields.length : Int)
  | [], _, _, _, i, h, _ => by simp at h
  | k :: r, [], hl, _, i, _, h' => by simp at h'
  | k :: r, s :: t, hl, h0, i, h, h' => by
    rw [keysErr] at h0
    by_cases h4 : k < -1 ∨ (s.fFields.length : Int) ≤ k
    · rw [if_pos h4] at h0; exact absurd h0 (by decide)
    · rw [if_neg h4] at h0
      cases i with
      | zero => simp only [List.getElem_cons_zero]; omega
      | succ i => exact keysErr_at (by simpa using hl) h0 i (by simpa using h) (by simpa using h')
theorem key_at {l : List Sch} {key : List Int} {e : Ev47} (he : evErr l e = 0) (hk : keyErr l key = 0) (h0 : key.length ≠ 0) : ∃ k : Int, (∀ {β : Type} (f : Int → Option β), idx key e.fType f = f k) ∧ key.getD e.fType.toNat 0 = k ∧ (0 ≤ k → ∃ v, (∀ {β : Type} (f : Vl → Option β), idx e.fValues k f = f v) ∧ e.fValues.getD k.toNat zeroV = v ∧ valErr v = 0) := by
  obtain ⟨_, e1, e2, e3, e4⟩ := evErr_zero he
  unfold keyErr at hk
  rw [if_neg h0] at hk
  by_cases h2 : key.length = l.length
  · rw [if_nne h2] at hk
    have hi : e.fType.toNat < key.length := by omega
    have := keysErr_at h2 hk _ hi e2
    refine ⟨key[e.fType.toNat], fun f => idx_int e1 hi f, by rw [List.getD_eq_getElem?_getD, List.getElem?_eq_getElem hi]; rfl, fun hk0 => ?_⟩
    have hv : key[e.fType.toNat].toNat < e.fValues.length := by omega
    exact ⟨e.fValues[key[e.fType.toNat].toNat], fun f => idx_int hk0 hv f, by rw [List.getD_eq_getElem?_getD, List.getElem?_eq_getElem hv]; rfl, valsErr_at e3 e4 _ (List.getElem_mem hv)⟩
  · rw [if_pos h2] at hk; exact absurd hk (by decide)
theorem p_key (n : Nat) (l : List Sch) (key : List Int) (e : Ev47) (hs : e.fValues.length ≤ 1000000) (hn : e.fValues.length < n) (hn2 : 30 ≤ n) (hn3 : key.length < n) (ha : allErr l = 0) (he : evErr l e = 0) (hk : keyErr l key = 0) : F_event_Key n l key e = some ((keyOf key e).1, (keyOf key e).2, 0) := by
  unfold F_event_Key keyOf
  rw [p_evCheck n l e hs hn hn2 ha, bnd_some, he]
  simp only [List.length_map, cnd_not, cnd_if, if_true]
  by_cases h0 : key.length = 0
  · rw [if_pos (by omega), if_pos h0]; rfl
  · rw [if_neg (by omega), if_neg h0]
    obtain ⟨k, k1, k2, k3⟩ := key_at he hk h0
    unfold keyErr at hk
    rw [if_neg h0] at hk
    by_cases h2 : key.length = l.length
    · rw [if_nne h2] at hk
      have hl16 : l.length ≤ 16 := by
        unfold allErr at ha
        split at ha
        · exact absurd ha (by decide)
        · omega
      have := p_key_l1 n e l key h2 (by omega) hk (idx key e.fType fun x42 => if 0 ≤ x42 then idx e.fValues x42 fun x43 => some (x43, true, 0) else some (⟨0, 0, ByteArray.empty⟩, false, 0)) n 0 (by omega) (by omega) (by simpa using hk)
      simp only [Int.natCast_zero] at this
      rw [if_pos (by omega), this, k1, k2]
      by_cases h4 : 0 ≤ k
      · obtain ⟨v, v1, v2, _⟩ := k3 h4
        rw [if_pos h4, if_neg (by omega), v1, v2]
      · rw [if_neg h4, if_pos (by omega)]; rfl
    · rw [if_pos h2] at hk; exact absurd hk (by decide)
theorem keyOf_ok {l : List Sch} {key : List Int} {e : Ev47} (he : evErr l e = 0) (hk : keyErr l key = 0) : valErr (keyOf key e).1 = 0 := by
  unfold keyOf
  by_cases h0 : key.length = 0
  · rw [if_pos h0]; decide
  · rw [if_neg h0]
    obtain ⟨k, k1, k2, k3⟩ := key_at he hk h0
    rw [k2]
    by_cases h4 : 0 ≤ k
    · obtain ⟨v, v1, v2, v3⟩ := k3 h4
      rw [if_neg (by omega), v2]; exact v3
    · rw [if_pos (by omega)]; decide

abbrev It := T_api_Item
def emptyB (e : Ev47) : Bool := decide (e.fSource = 0 ∧ e.fSeq = 0 ∧ e.fType = 0 ∧ e.fTime = 0 ∧ e.fValues.length = 0)
def itmErr (x : It) : Int :=
  if x.fKind = 0 then (if x.fNumber ≠ 0 then 2 else 0) else if x.fKind = 1 ∨ x.fKind = 2 then (if x.fNumber < x.fKind - 1 ∨ 1099511627776 < x.fNumber then 2 else if emptyB x.fEvent = false then 3 else 0) else 1
theorem p_empty (n : Nat) (e : Ev47) : F_channel_empty n e = some (emptyB e) := by
  unfold F_channel_empty emptyB
  simp only [cnd_if, List.length_map]
  (repeat' split) <;> (congr 1; first | (rw [decide_eq_decide]; omega) | (symm; rw [decide_eq_false_iff_not]; omega))
theorem p_item (n : Nat) (x : It) : F_channel_item n x = some (itmErr x) := by
  unfold F_channel_item itmErr
  simp only [cnd_if, cnd_not, p_empty, bnd_some]
  by_cases h0 : x.fKind = 0
  · rw [if_pos h0, if_pos h0, if_pos h0]
    by_cases h1 : x.fNumber < 0
    · rw [if_pos h1, if_pos (by omega)]
    · rw [if_neg h1]
      by_cases h2 : 0 < x.fNumber
      · rw [if_pos h2, if_pos (by omega)]
      · rw [if_neg h2, if_neg (by omega)]
  · simp only [if_neg h0]
    by_cases h1 : x.fKind = 1
    · rw [if_pos h1, if_pos (Or.inl h1), h1]
      cases emptyB x.fEvent <;> (simp only [cnd_t, cnd_f]; (repeat' split) <;> first | rfl | (exfalso; omega) | (exfalso; simp_all; done))
    · rw [if_neg h1]
      by_cases h2 : x.fKind = 2
      · rw [if_pos h2, if_pos (Or.inr h2), h2]
        cases emptyB x.fEvent <;> (simp only [cnd_t, cnd_f]; (repeat' split) <;> first | rfl | (exfalso; omega) | (exfalso; simp_all; done))
      · rw [if_neg h2, if_neg (show ¬ (x.fKind = 1 ∨ x.fKind = 2) by omega)]
theorem p_chan (n : Nat) (x : It) (hn : 10 ≤ n) : F_channel_Check n [⟨0, 0, [x]⟩] = some (itmErr x) := by
  obtain ⟨m, rfl⟩ : ∃ m, n = m + 2 := ⟨n - 2, by omega⟩
  have hi : F_channel_items (m + 2) [x] = some (itmErr x) := by
    unfold F_channel_items
    have e0 : ∀ (f : It → Option Int), idx [x] 0 f = f x := fun f => by unfold idx; rfl
    simp only [F_channel_items_l1, List.map_cons, List.map_nil, List.length_cons, List.length_nil, cnd_if, e0, p_item, bnd_some, cnd_not, show IntKind.wrap .i64 ((0 : Int) + 1) = 1 from rfl]
    by_cases h : itmErr x = 0 <;> simp [h]
  unfold F_channel_Check
  have e0 : ∀ (f : T_api_Queue → Option Int), idx [(⟨0, 0, [x]⟩ : T_api_Queue)] 0 f = f ⟨0, 0, [x]⟩ := fun f => by unfold idx; rfl
  simp only [F_channel_Check_l1, List.map_cons, List.map_nil, List.length_cons, List.length_nil, cnd_if, e0, hi, bnd_some, cnd_not, show IntKind.wrap .i64 ((0 : Int) + 1) = 1 from rfl]
  by_cases h : itmErr x = 0 <;> simp [h]
theorem p_sameItem_l1 (n : Nat) (b a : It) (hl : a.fEvent.fValues.length = b.fEvent.fValues.length) (hs : a.fEvent.fValues.length ≤ 1000000) : ∀ (m k : Nat), k ≤ a.fEvent.fValues.length → a.fEvent.fValues.length < m + k →
    F_tidegateref46_SameItem_l1 n b a (some true) m (k : Int) = some (decide (a.fEvent.fValues.drop k = b.fEvent.fValues.drop k))
  | 0, k, h1, h2 => by omega
  | m + 1, k, h1, h2 => by
    unfold F_tidegateref46_SameItem_l1
    simp only [List.length_map, cnd_if, cnd_not, bytes_dec]
    by_cases h : k < a.fEvent.fValues.length
    · have h' : k < b.fEvent.fValues.length := by omega
      rw [if_pos (by omega), idx_nat h, idx_nat h', wrapS k (by omega), p_sameItem_l1 n b a hl hs m (k + 1) (by omega) (by omega), dropK_cons h, dropK_cons h']
      have e : (decide (a.fEvent.fValues[k].fKind = b.fEvent.fValues[k].fKind) && (decide (a.fEvent.fValues[k].fNum = b.fEvent.fValues[k].fNum) && (decide (a.fEvent.fValues[k].fText = b.fEvent.fValues[k].fText) && true))) = decide (a.fEvent.fValues[k] = b.fEvent.fValues[k]) := by
        generalize a.fEvent.fValues[k] = x
        generalize b.fEvent.fValues[k] = y
        obtain ⟨x1, x2, x3⟩ := x
        obtain ⟨y1, y2, y3⟩ := y
        simp only [T_api_Value.mk.injEq, Bool.and_true, Bool.decide_and]
      rw [e, dec_cons]
      by_cases h4 : a.fEvent.fValues[k] = b.fEvent.fValues[k]
      · rw [decide_eq_true h4, cnd_t, Bool.true_and]
      · rw [decide_eq_false h4, cnd_f, Bool.false_and]
    · rw [if_neg (by omega), List.drop_eq_nil_of_le (by omega), List.drop_eq_nil_of_le (by omega)]; simp
theorem p_sameItem (n : Nat) (a b : It) (hs : a.fEvent.fValues.length ≤ 1000000) (hn : a.fEvent.fValues.length < n) : F_tidegateref46_SameItem n a b = some (decide (a = b)) := by
  unfold F_tidegateref46_SameItem
  simp only [List.length_map, cnd_not, cnd_if]
  obtain ⟨a1, ⟨a2, a3, a4, a5, a6⟩, a7⟩ := a
  obtain ⟨b1, ⟨b2, b3, b4, b5, b6⟩, b7⟩ := b
  simp only [T_api_Item.mk.injEq, T_api_Event.mk.injEq] at *
  by_cases h1 : a1 = b1
  · rw [if_pos h1]
    by_cases h2 : a7 = b7
    · rw [if_pos h2]
      by_cases h3 : a2 = b2
      · rw [if_pos h3]
        by_cases h4 : a3 = b3
        · rw [if_pos h4]
          by_cases h5 : a4 = b4
          · rw [if_pos h5]
            by_cases h6 : a5 = b5
            · rw [if_pos h6]
              by_cases h7 : a6.length = b6.length
              · rw [if_pos (by omega)]
                have := p_sameItem_l1 n ⟨b1, ⟨b2, b3, b4, b5, b6⟩, b7⟩ ⟨a1, ⟨a2, a3, a4, a5, a6⟩, a7⟩ h7 hs n 0 (by omega) (by simp only; omega)
                simp only [Int.natCast_zero, List.drop_zero] at this
                rw [this]; simp [h1, h2, h3, h4, h5, h6]
              · rw [if_neg (by omega)]
                have : a6 ≠ b6 := fun e => h7 (by rw [e])
                simp [this]
            · rw [if_neg h6]; simp [h6]
          · rw [if_neg h5]; simp [h5]
        · rw [if_neg h4]; simp [h4]
      · rw [if_neg h3]; simp [h3]
    · rw [if_neg h2]; simp [h2]
  · rw [if_neg h1]; simp [h1]
theorem p_sameItems_l1 (n : Nat) (b a : List It) (hl : a.length = b.length) (hs : a.length ≤ 1000000) (hv : ∀ x ∈ a, x.fEvent.fValues.length ≤ 1000) (hn : 1000 < n) : ∀ (m k : Nat), k ≤ a.length → a.length < m + k →
    F_tidegateref46_SameItems_l1 n b a (some true) m (k : Int) = some (decide (a.drop k = b.drop k))
  | 0, k, h1, h2 => by omega
  | m + 1, k, h1, h2 => by
    unfold F_tidegateref46_SameItems_l1
    simp only [List.length_map, cnd_if, cnd_not]
    by_cases h : k < a.length
    · have h' : k < b.length := by omega
      have hk := hv _ (List.getElem_mem h)
      rw [if_pos (by omega), idx_nat h, idx_nat h', p_sameItem n _ _ (by omega) (by omega), bnd_some, wrapS k (by omega), p_sameItems_l1 n b a hl hs hv hn m (k + 1) (by omega) (by omega), dropK_cons h, dropK_cons h', dec_cons]
      by_cases h4 : a[k] = b[k]
      · rw [decide_eq_true h4, cnd_t, Bool.true_and]
      · rw [decide_eq_false h4, cnd_f, Bool.false_and]
    · rw [if_neg (by omega), List.drop_eq_nil_of_le (by omega), List.drop_eq_nil_of_le (by omega)]; simp
theorem p_sameItems (n : Nat) (a b : List It) (hs : a.length ≤ 1000000) (hn : a.length < n) (hv : ∀ x ∈ a, x.fEvent.fValues.length ≤ 1000) (hn2 : 1000 < n) : F_tidegateref46_SameItems n a b = some (decide (a = b)) := by
  unfold F_tidegateref46_SameItems
  simp only [List.length_map, cnd_not, cnd_if]
  by_cases h : a.length = b.length
  · rw [if_pos (by omega)]
    have := p_sameItems_l1 n b a h hs hv hn2 n 0 (by omega) (by omega)
    simpa using this
  · rw [if_neg (by omega)]
    have : a ≠ b := fun e => h (by rw [e])
    simp [this]
theorem p_sameI_l1 (n : Nat) (b a : List Int) (hl : a.length = b.length) (hs : a.length ≤ 1000000) : ∀ (m k : Nat), k ≤ a.length → a.length < m + k → F_tidegateref34_SameInts_l1 n b a (some true) m (k : Int) = some (decide (a.drop k = b.drop k))
  | 0, k, h1, h2 => by omega
  | m + 1, k, h1, h2 => by
    unfold F_tidegateref34_SameInts_l1
    simp only [List.length_map, cnd_if, cnd_not]
    by_cases h : k < a.length
    · have h' : k < b.length := by omega
      rw [if_pos (by omega), idx_nat h, idx_nat h', wrapS k (by omega), p_sameI_l1 n b a hl hs m (k + 1) (by omega) (by omega), dropK_cons h, dropK_cons h', dec_cons]
      by_cases h4 : a[k] = b[k]
      · rw [decide_eq_true h4, if_pos h4, Bool.true_and]
      · rw [decide_eq_false h4, if_neg h4, Bool.false_and]
    · rw [if_neg (by omega), List.drop_eq_nil_of_le (by omega), List.drop_eq_nil_of_le (by omega)]; simp
theorem p_sameI (n : Nat) (a b : List Int) (hs : a.length ≤ 1000000) (hn : a.length < n) : F_tidegateref34_SameInts n a b = some (decide (a = b)) := by
  unfold F_tidegateref34_SameInts
  simp only [List.length_map, cnd_not, cnd_if]
  by_cases h : a.length = b.length
  · rw [if_pos (by omega)]
    have := p_sameI_l1 n b a h hs n 0 (by omega) (by omega)
    simpa using this
  · rw [if_neg (by omega)]
    have : a ≠ b := fun e => h (by rw [e])
    simp [this]
end Go.Proofs.Ytcbdhigllelmcaa

namespace Go.Proofs.Ytcbdhigllelmcaa
open Go.RowKit

theorem p_check_l1 (n : Nat) (l : List Trk) (K : Option Int) : ∀ (m k : Nat), k ≤ l.length → l.length ≤ 1000000 → l.length < m + k → F_watermark_Check_l1 n l K m k = if wChecks (l.drop k) = 0 then K else some (wChecks (l.drop k))
  | 0, k, h1, h2, h3 => by omega
  | m + 1, k, h1, h2, h3 => by
    unfold F_watermark_Check_l1
    simp only [List.length_map, cnd_if, cnd_not]
    by_cases h : k < l.length
    · rw [if_pos (by omega), idx_nat h]
      simp only [F_puCheck, bnd_some, cnd_if, wrapS k (by omega)]
      rw [wChecks_drop l k h]
      by_cases h4 : puCheck l[k] = 0
      · simp only [h4, if_true, ne_eq, not_true_eq_false, if_false]
        exact p_check_l1 n l K m (k + 1) (by omega) h2 (by omega)
      · simp [h4]
    · rw [if_neg (by omega), List.drop_eq_nil_of_le (by omega)]; simp [wChecks]
theorem p_check (n : Nat) (l : List Trk) (hn : 100 ≤ n) : F_watermark_Check n l = some (wCheck l) := by
  unfold F_watermark_Check wCheck
  simp only [List.length_map, cnd_if]
  by_cases h : 8 < l.length
  · rw [if_pos (by omega), if_pos h]
  · rw [if_neg (by omega), if_neg h]
    have := p_check_l1 n l (some 0) n 0 (by omega) (by omega) (by omega)
    simp only [Int.natCast_zero, List.drop_zero] at this
    rw [this]
    split
    · rename_i h; rw [h]
    · rfl
end Go.Proofs.Ytcbdhigllelmcaa
namespace Go.Proofs.Ytcbdhigllelmcaa
open Go.RowKit

theorem sqLoop_zero (a : Int) (l : List Int) : sqLoop a l = 0 ↔ (∀ b ∈ l, 0 ≤ b ∧ b ≤ 1099511627776) ∧ (a :: l).Pairwise (· < ·) := by
  induction l generalizing a with
  | nil => simp [sqLoop]
  | cons x r ih =>
    unfold sqLoop
    by_cases h1 : x < 0 ∨ 1099511627776 < x
    · rw [if_pos h1]
      refine ⟨fun h => by omega, fun ⟨h, _⟩ => by have := h x (by simp); omega⟩
    · rw [if_neg h1]
      by_cases h2 : x ≤ a
      · rw [if_pos h2]
        refine ⟨fun h => by omega, fun ⟨_, h⟩ => by have := (List.pairwise_cons.1 h).1 x (by simp); omega⟩
      · rw [if_neg h2, ih]
        constructor
        · rintro ⟨h3, h4⟩
          refine ⟨fun b hb => ?_, List.pairwise_cons.2 ⟨fun b hb => ?_, h4⟩⟩
          · rcases List.mem_cons.1 hb with rfl | hb
            · omega
            · exact h3 b hb
          · rcases List.mem_cons.1 hb with rfl | hb
            · omega
            · have := (List.pairwise_cons.1 h4).1 b hb; omega
        · rintro ⟨h3, h4⟩
          exact ⟨fun b hb => h3 b (by simp [hb]), (List.pairwise_cons.1 h4).2⟩
theorem sqCheck_zero (t : Trk) : sqCheck t = 0 ↔ (0 ≤ t.next ∧ t.next ≤ 1099511627777) ∧ t.beyond.length ≤ 256 ∧ (∀ b ∈ t.beyond, 0 ≤ b ∧ b ≤ 1099511627776) ∧ (t.next :: t.beyond).Pairwise (· < ·) := by
  unfold sqCheck
  by_cases h1 : t.next < 0 ∨ 1099511627777 < t.next
  · rw [if_pos h1]
    exact ⟨fun h => by omega, fun h => by omega⟩
  · rw [if_neg h1]
    by_cases h2 : 256 < t.beyond.length
    · rw [if_pos h2]
      exact ⟨fun h => by omega, fun h => by omega⟩
    · rw [if_neg h2, sqLoop_zero]
      exact ⟨fun h => ⟨by omega, by omega, h⟩, fun h => h.2.2⟩
end Go.Proofs.Ytcbdhigllelmcaa
namespace Go.Proofs.Ytcbdhigllelmcaa
open Go.RowKit

def rng (a most : Int) : Bool := decide (0 ≤ a) && decide (a ≤ most)
def msgCheck (m : T_api_Message) : Int :=
  if m.fKind = 0 then
    if m.fSource = 0 ∧ m.fSeq = 0 ∧ m.fTime = 0 then
      if rng m.fEvent.fSource 7 = true ∧ rng m.fEvent.fSeq 1099511627776 = true ∧ rng m.fEvent.fTime 1099511627776 = true then 0 else 2
    else 3
  else if m.fKind = 1 then
    if m.fEvent.fSource = 0 ∧ m.fEvent.fSeq = 0 ∧ m.fEvent.fType = 0 ∧ m.fEvent.fTime = 0 ∧ m.fEvent.fValues.length = 0 then
      if rng m.fSource 7 = true ∧ ptValid ⟨m.fSeq, m.fTime⟩ = true then 0 else 2
    else 3
  else 1
theorem p_ranged (n : Nat) (a b : Int) : F_watermark_ranged n a b = some (rng a b) := by
  unfold F_watermark_ranged rng
  rw [cnd_if]
  by_cases h : 0 ≤ a <;> simp [h]
theorem begin_ok : TOk ⟨0, [], [], -1⟩ := (puCheck_zero _).1 (by decide +kernel)
theorem p_valid (n : Nat) (m : T_api_Message) : F_watermark_valid n m = some (ptValid ⟨m.fSeq, m.fTime⟩) := by
  unfold F_watermark_valid F_sequence_Begin F_puAdd
  rw [bnd_some, if_pos (by simp), bnd_some]
  cases h : ptValid ⟨m.fSeq, m.fTime⟩ with
  | true => simp [add_fits _ _ begin_ok h (by simp)]
  | false => simp [add_invalid ⟨0, [], [], -1⟩ _ h]
theorem p_checkM (n : Nat) (m : T_api_Message) : F_watermark_CheckMessage n m = some (msgCheck m) := by
  unfold F_watermark_CheckMessage F_watermark_checkEvent F_watermark_checkPoint msgCheck
  simp only [cnd_if, cnd_not, p_ranged, p_valid, bnd_some, List.length_map]
  by_cases h0 : m.fKind = 0
  · simp only [h0, if_true]
    rw [if_neg (by omega), if_neg (by omega)]
    by_cases h1 : m.fSource = 0
    · by_cases h2 : m.fSeq = 0
      · by_cases h3 : m.fTime = 0
        · simp only [h1, h2, h3, and_self, if_true]
          cases rng m.fEvent.fSource 7
          · simp [cnd_b, bnd_some]
          · cases rng m.fEvent.fSeq 1099511627776
            · simp [cnd_b, bnd_some]
            · cases rng m.fEvent.fTime 1099511627776 <;> simp [cnd_b, bnd_some]
        · simp [h1, h2, h3, bnd_some]
      · simp [h1, h2, bnd_some]
    · simp [h1, bnd_some]
  · by_cases h1 : m.fKind = 1
    · rw [if_neg (by omega), if_neg (by omega), if_neg h0, if_pos h1, if_neg h0, if_pos h1]
      by_cases e1 : m.fEvent.fSource = 0
      · by_cases e2 : m.fEvent.fSeq = 0
        · by_cases e3 : m.fEvent.fType = 0
          · by_cases e4 : m.fEvent.fTime = 0
            · by_cases e5 : m.fEvent.fValues.length = 0
              · simp only [e1, e2, e3, e4, e5, and_self, if_true]
                cases rng m.fSource 7
                · simp [cnd_b, bnd_some]
                · cases ptValid ⟨m.fSeq, m.fTime⟩ <;> simp [cnd_b, bnd_some]
              · have : 0 < m.fEvent.fValues.length := by omega
                simp [e1, e2, e3, e4, e5, bnd_some, this]
            · simp [e1, e2, e3, e4, bnd_some]
          · simp [e1, e2, e3, bnd_some]
        · simp [e1, e2, bnd_some]
      · simp [e1, bnd_some]
    · rw [if_neg h0, if_neg h1, if_neg h0, if_neg h1]
      by_cases h2 : m.fKind < 0
      · rw [if_pos h2]
      · rw [if_neg h2, if_pos (by omega)]
def srcOf (m : T_api_Message) : Int := if m.fKind = 0 then m.fEvent.fSource else m.fSource
def cntB (l : List Int) (a : Int) : Nat := (l.filter fun b => decide (b < a)).length
theorem cntB_lt (l : List Int) (a : Int) (h : l.Pairwise (· < ·)) : ∀ k (hk : k < l.length), l[k] < a ↔ k < cntB l a := by
  induction l with
  | nil => intro k hk; simp at hk
  | cons x r ih =>
    intro k hk
    have h' := List.pairwise_cons.1 h
    unfold cntB
    by_cases hx : x < a
    · rw [List.filter_cons_of_pos (by simpa using hx), List.length_cons]
      cases k with
      | zero => simp [hx]
      | succ k => simpa [cntB] using ih h'.2 k (by simpa using hk)
    · rw [List.filter_cons_of_neg (by simpa using hx)]
      have hall : r.filter (fun b => decide (b < a)) = [] := by
        rw [List.filter_eq_nil_iff]
        intro p hp
        have := h'.1 p hp
        simp; omega
      rw [hall]
      cases k with
      | zero => simp [hx]
      | succ k =>
        have hk' : k < r.length := by simpa using hk
        have := h'.1 r[k] (List.getElem_mem hk')
        simp; omega
theorem cntB_le (l : List Int) (a : Int) : cntB l a ≤ l.length := List.length_filter_le _ _
theorem mid_eq (i j : Nat) (hi : i ≤ 1000000000) (hj : j ≤ 1000000000) : IntKind.wrap .i64 (Int.fdiv (IntKind.wrap .u64 (IntKind.wrap .i64 ((i : Int) + (j : Int)))) (2 ^ min (Int.toNat (1 : Int)) (IntKind.bits .u64))) = (((i + j) / 2 : Nat) : Int) := by
  have h1 : IntKind.wrap .i64 ((i : Int) + (j : Int)) = (i : Int) + (j : Int) := wrap_in _ (by omega)
  have h2 : IntKind.wrap .u64 ((i : Int) + (j : Int)) = (i : Int) + (j : Int) := IntWalk.u64_in _ (by omega)
  rw [h1, h2]
  have e : (2 ^ min (Int.toNat (1 : Int)) (IntKind.bits .u64) : Int) = 2 := by decide
  rw [e]
  have e2 : Int.fdiv ((i : Int) + (j : Int)) 2 = (((i + j) / 2 : Nat) : Int) := by
    rw [Int.fdiv_eq_ediv_of_nonneg _ (by omega)]
    omega
  rw [e2, wrap_in _ (by omega)]
theorem p_search_l1 (n : Nat) (a : Int) (l : List Int) (hs : l.Pairwise (· < ·)) (hl : l.length ≤ 1000000) (K : Int → Option Int) : ∀ (m i j : Nat), i ≤ cntB l a → cntB l a ≤ j → j ≤ l.length → j - i < m → F_sort_Search_l1 n a l K m ((i : Int), (j : Int)) = K (cntB l a)
  | 0, i, j, h1, h2, h3, h4 => by omega
  | m + 1, i, j, h1, h2, h3, h4 => by
    unfold F_sort_Search_l1
    simp only [cnd_if, cnd_not]
    by_cases h : i < j
    · rw [if_pos (by omega), shx_ok (by omega), mid_eq i j (by omega) (by omega)]
      have hm : (i + j) / 2 < l.length := by omega
      unfold F_sequence_place_1
      rw [idx_nat hm, bnd_some, cnd_if]
      have hc := cntB_lt l a hs _ hm
      by_cases h5 : a ≤ l[(i + j) / 2]
      · rw [if_pos h5]
        exact p_search_l1 n a l hs hl K m i ((i + j) / 2) h1 (by omega) (by omega) (by omega)
      · rw [if_neg h5, wrapS _ (by omega)]
        exact p_search_l1 n a l hs hl K m ((i + j) / 2 + 1) j (by omega) h2 h3 (by omega)
    · rw [if_neg (by omega)]
      congr 1
      omega
theorem p_place (n : Nat) (l : List Int) (a : Int) (hs : l.Pairwise (· < ·)) (hl : l.length ≤ 1000000) (hn : l.length < n) : F_sequence_place n l a = some ((cntB l a : Nat) : Int) := by
  unfold F_sequence_place F_sort_Search
  have := p_search_l1 n a l hs hl (fun y => some y) n 0 l.length (by omega) (cntB_le l a) (Nat.le_refl _) (by omega)
  simp only [List.length_map]
  simp only [Int.natCast_zero] at this
  rw [this, bnd_some]
theorem cntB_mem (l : List Int) (a : Int) (hs : l.Pairwise (· < ·)) : l.contains a = true ↔ ∃ h : cntB l a < l.length, l[cntB l a] = a := by
  rw [List.contains_iff_mem]
  constructor
  · intro h
    obtain ⟨k, hk, rfl⟩ := List.mem_iff_getElem.1 h
    have h1 := (cntB_lt l l[k] hs k hk)
    have hle : cntB l l[k] ≤ k := by omega
    have hlt : cntB l l[k] < l.length := by omega
    refine ⟨hlt, ?_⟩
    have h2 := cntB_lt l l[k] hs _ hlt
    rcases Nat.eq_or_lt_of_le hle with e | hlt2
    · simp [e]
    · have := List.pairwise_iff_getElem.1 hs _ _ hlt hk hlt2
      omega
  · rintro ⟨h, e⟩
    have := List.getElem_mem h
    rwa [e] at this
theorem p_has (n : Nat) (t : Trk) (s : Int) (hs : t.beyond.Pairwise (· < ·)) (hl : t.beyond.length ≤ 1000000) (hn : t.beyond.length < n) : F_sequence_has n t s = some (hasB t s) := by
  unfold F_sequence_has hasB
  rw [cnd_if]
  split
  · rfl
  · rw [p_place n t.beyond s hs hl hn, bnd_some]
    simp only [List.length_map, cnd_if]
    have hm := cntB_mem t.beyond s hs
    by_cases h : cntB t.beyond s < t.beyond.length
    · rw [if_pos (by omega), idx_nat h]
      congr 1
      rw [Bool.eq_iff_iff, hm, decide_eq_true_iff]
      exact ⟨fun e => ⟨h, e⟩, fun ⟨_, e⟩ => e⟩
    · rw [if_neg (by omega)]
      congr 1
      symm
      rw [← Bool.not_eq_true, hm]
      rintro ⟨h', _⟩
      exact h h'
theorem sqLoop_cons (a b : Int) (r : List Int) : sqLoop a (b :: r) = if b < 0 ∨ 1099511627776 < b then 2 else if b ≤ a then 14 else sqLoop b r := rfl
theorem p_sqCheck_l1 (n : Nat) (t : Trk) (hl : t.beyond.length ≤ 1000000) : ∀ (m k : Nat) (a : Int), k ≤ t.beyond.length → t.beyond.length < m + k → F_sequence_Check_l1 n t (some 0) m (a, (k : Int)) = some (sqLoop a (t.beyond.drop k))
  | 0, k, a, h1, h3 => by omega
  | m + 1, k, a, h1, h3 => by
    unfold F_sequence_Check_l1
    simp only [List.length_map, cnd_if]
    by_cases h : k < t.beyond.length
    · rw [if_pos (by omega), idx_nat h, wrapS k (by omega), p_sqCheck_l1 n t hl m (k + 1) _ (by omega) (by omega), drop_cons _ k h, sqLoop_cons]
      by_cases h1 : t.beyond[k] < 0
      · simp only [h1, if_true, true_or]
      · by_cases h2 : 1099511627776 < t.beyond[k]
        · simp only [h1, h2, if_true, if_false, or_true]
        · simp only [h1, h2, if_false, or_self]
          split <;> rfl
    · rw [if_neg (by omega), List.drop_eq_nil_of_le (by omega)]; rfl
theorem p_sqCheck (n : Nat) (t : Trk) (hl : t.beyond.length ≤ 1000000) (hn : t.beyond.length < n) : F_sequence_Check n t = some (sqCheck t) := by
  unfold F_sequence_Check sqCheck
  simp only [List.length_map, cnd_if]
  have := p_sqCheck_l1 n t hl n 0 t.next (by omega) (by omega)
  simp only [Int.natCast_zero, List.drop_zero] at this
  rw [this]
  by_cases h1 : t.next < 0
  · simp only [h1, if_true, true_or]
  · by_cases h2 : 1099511627777 < t.next
    · simp only [h1, h2, if_true, if_false, or_true]
    · simp only [h1, h2, if_false, or_self]
      by_cases h3 : 256 < t.beyond.length
      · rw [if_pos (by omega), if_pos h3]
      · rw [if_neg (by omega), if_neg h3]
end Go.Proofs.Ytcbdhigllelmcaa
namespace Go.Proofs.Ytcbdhigllelmcaa
open Go.RowKit

def strip : Int → List Int → Int × List Int
  | a, [] => (a, [])
  | a, b :: r => if b = a then strip (a + 1) r else (a, b :: r)
def insB (l : List Int) (s : Int) : List Int := l.take (cntB l s) ++ s :: l.drop (cntB l s)
def withT (t : Trk) (s : Int) : Trk :=
  if t.next < s then ⟨t.next, insB t.beyond s, t.points, t.mark⟩ else ⟨(strip (t.next + 1) t.beyond).1, (strip (t.next + 1) t.beyond).2, t.points, t.mark⟩
def recvT (t : Trk) (s : Int) : Trk × Bool × Int :=
  if sqCheck t ≠ 0 then (zeroT, false, sqCheck t) else if s < 0 ∨ 1099511627776 < s then (zeroT, false, 2) else
  if hasB t s = true then (t, false, 0) else if 256 < (withT t s).beyond.length then (zeroT, false, 5) else (withT t s, true, 0)

theorem p_strip_own (n : Nat) (t : Trk) (ps : List Pt) (K : Int → List Int → List Pt → Option Trk) : ∀ (l : List Int) (m : Nat) (a : Int), l.length < m → l.length ≤ 1000000 → 0 ≤ a → a + l.length ≤ 4000000000000 →
    F_sequence_with_l1 n t ps K m (a, l) = K (strip a l).1 (strip a l).2 ps
  | [], 0, a, h, _, _, _ => by simp at h
  | [], m + 1, a, h, _, _, _ => by
    unfold F_sequence_with_l1
    simp only [List.map_nil, List.length_nil, cnd_if]
    rw [if_neg (by omega)]
    rfl
  | b :: r, 0, a, h, _, _, _ => by simp at h
  | b :: r, m + 1, a, h, h1, h2, h3 => by
    unfold F_sequence_with_l1
    simp only [List.length_map, cnd_if, reg_eq]
    simp only [List.length_cons] at h h1 h3 ⊢
    rw [if_pos (by omega), idx_zero]
    unfold strip
    by_cases h4 : b = a
    · have e := sls_ok (l := b :: r) (a := 1) (b := r.length + 1) (by omega) (by simp) (fun x49 => F_sequence_with_l1 n t ps K m (IntKind.i64.wrap (a + 1), x49))
      simp only [Int.natCast_one] at e
      rw [if_pos h4, if_pos h4, e, wrap_in (a + 1) (by omega)]
      have : ((b :: r).take (r.length + 1)).drop 1 = r := by simp
      rw [this]
      exact p_strip_own n t ps K r m (a + 1) (by omega) (by omega) (by omega) (by omega)
    · rw [if_neg h4, if_neg h4]
theorem insB_len (l : List Int) (s : Int) : (insB l s).length = l.length + 1 := by
  have := cntB_le l s
  simp [insB]
  omega
theorem ins_ok {α : Type} {n c : Nat} {a : List α} {x : α} (h : c ≤ a.length) (hl : a.length ≤ 1000000000) : F_insert n a (c : Int) [x] = some (a.take c ++ x :: a.drop c) := by
  unfold F_insert
  simp [h, hl]
theorem p_with (n : Nat) (t : Trk) (s : Int) (hq : sqCheck t = 0) (hp : t.points.length ≤ 1000000) (hn : 1000 ≤ n) : F_sequence_with n t s = some (withT t s) := by
  obtain ⟨h1, h2, h3, h4⟩ := (sqCheck_zero t).1 hq
  unfold F_sequence_with F_clone withT
  rw [if_pos (by omega), bndR_some, if_pos (by omega), bnd_some, cnd_if]
  by_cases h : t.next < s
  · rw [if_pos h, if_pos h, p_place n t.beyond s (List.pairwise_cons.1 h4).2 (by omega) (by omega), bnd_some]
    have := cntB_le t.beyond s
    rw [ins_ok this (by omega), bndC_some]
    rfl
  · rw [if_neg h, if_neg h, wrap_in _ (by omega), p_strip_own n t t.points _ t.beyond n (t.next + 1) (by omega) (by omega) (by omega) (by omega)]

theorem hasB_false (t : Trk) (s : Int) (h0 : 0 ≤ s) (h : hasB t s = false) : t.next ≤ s ∧ s ∉ t.beyond := by
  unfold hasB at h
  split at h
  · simp at h; omega
  · refine ⟨by omega, fun hm => ?_⟩
    rw [← Bool.not_eq_true, List.contains_iff_mem] at h
    exact h hm
theorem p_recv (n : Nat) (t : Trk) (s : Int) (hl : t.beyond.length ≤ 900) (hp : t.points.length ≤ 1000000) (hn : 1000 ≤ n) : F_sequence_Receive n t s = some (recvT t s) := by
  unfold F_sequence_Receive recvT
  rw [p_sqCheck n t (by omega) (by omega), bnd_some]
  simp only [cnd_not, cnd_if]
  by_cases hq : sqCheck t = 0
  · have hw : ¬ sqCheck t ≠ 0 := by simpa using hq
    rw [if_pos hq, if_neg hw]
    obtain ⟨h1, h2, h3, h4⟩ := (sqCheck_zero t).1 hq
    by_cases h5 : s < 0
    · simp only [h5, if_true, true_or]; rfl
    · by_cases h6 : 1099511627776 < s
      · simp only [h5, h6, if_true, if_false, or_true]; rfl
      · simp only [h5, h6, if_false, or_self]
        rw [p_has n t s (List.pairwise_cons.1 h4).2 (by omega) (by omega), bnd_some]
        cases hb : hasB t s with
        | true =>
          unfold F_clone
          rw [cnd_t, if_pos (by omega), bnd_some, if_pos (by omega), bnd_some]
          simp
        | false =>
          rw [cnd_f, p_with n t s hq hp hn, bnd_some]
          simp only [List.length_map, cnd_if, Bool.false_eq_true, if_false]
          by_cases h7 : 256 < (withT t s).beyond.length
          · rw [if_pos (by omega), if_pos h7]; rfl
          · rw [if_neg (by omega), if_neg h7]
  · rw [if_neg hq, if_pos hq]; rfl
def settledR (t : Trk) : Trk := ⟨t.next, t.beyond, t.points.filter fun p => decide (t.next < p.seq) && decide (latest t.mark t.points t.next < p.time), latest t.mark t.points t.next⟩
end Go.Proofs.Ytcbdhigllelmcaa
namespace Go.Proofs.Ytcbdhigllelmcaa
open Go.RowKit

theorem strip_props (a : Int) (l : List Int) (hs : l.Pairwise (· < ·)) (ha : ∀ b ∈ l, a ≤ b) :
    a ≤ (strip a l).1 ∧ ((strip a l).1 = a ∨ (strip a l).1 - 1 ∈ l) ∧ (∀ b ∈ (strip a l).2, b ∈ l) ∧ ((strip a l).1 :: (strip a l).2).Pairwise (· < ·) ∧ (strip a l).2.length ≤ l.length ∧ ∀ x, (x < (strip a l).1 ∨ x ∈ (strip a l).2) ↔ (x < a ∨ x ∈ l) := by
  induction l generalizing a with
  | nil => simp [strip]
  | cons b r ih =>
    have h' := List.pairwise_cons.1 hs
    unfold strip
    by_cases h : b = a
    · rw [if_pos h]
      obtain ⟨i1, i2, i3, i4, i5, i6⟩ := ih (a + 1) h'.2 (fun x hx => by have := h'.1 x hx; omega)
      refine ⟨by omega, Or.inr ?_, fun x hx => by simp [i3 x hx], i4, by simp; omega, fun x => ?_⟩
      · rcases i2 with i2 | i2
        · rw [i2, show a + 1 - 1 = b by omega]; simp
        · simp [i2]
      · rw [i6 x]
        simp only [List.mem_cons]
        constructor
        · rintro (h1 | h1)
          · by_cases hx : x = b
            · exact Or.inr (Or.inl hx)
            · exact Or.inl (by omega)
          · exact Or.inr (Or.inr h1)
        · rintro (h1 | h1 | h1)
          · exact Or.inl (by omega)
          · exact Or.inl (by omega)
          · exact Or.inr h1
    · rw [if_neg h]
      have hb := ha b (by simp)
      exact ⟨by omega, Or.inl rfl, fun x hx => hx, List.pairwise_cons.2 ⟨fun x hx => by
        rcases List.mem_cons.1 hx with rfl | hx
        · omega
        · have := h'.1 x hx; omega, hs⟩, by simp, fun x => Iff.rfl⟩
theorem insB_mem (l : List Int) (s x : Int) : x ∈ insB l s ↔ x = s ∨ x ∈ l := by
  have e : x ∈ l ↔ x ∈ l.take (cntB l s) ∨ x ∈ l.drop (cntB l s) := by
    rw [← List.mem_append, List.take_append_drop]
  rw [e]
  simp only [insB, List.mem_append, List.mem_cons]
  constructor
  · rintro (h | h | h)
    · exact Or.inr (Or.inl h)
    · exact Or.inl h
    · exact Or.inr (Or.inr h)
  · rintro (h | h | h)
    · exact Or.inr (Or.inl h)
    · exact Or.inl h
    · exact Or.inr (Or.inr h)
theorem insB_sorted (l : List Int) (s : Int) (hs : l.Pairwise (· < ·)) (hn : s ∉ l) : (insB l s).Pairwise (· < ·) := by
  have h1 : ∀ x ∈ l.take (cntB l s), x < s := fun x hx => by
    obtain ⟨k, hk, rfl⟩ := List.mem_iff_getElem.1 hx
    simp only [List.length_take] at hk
    rw [List.getElem_take]
    exact (cntB_lt l s hs k (by omega)).2 (by omega)
  have h2 : ∀ x ∈ l.drop (cntB l s), s < x := fun x hx => by
    have hxl := List.mem_of_mem_drop hx
    obtain ⟨k, hk, rfl⟩ := List.mem_iff_getElem.1 hx
    simp only [List.length_drop] at hk
    rw [List.getElem_drop]
    have := (cntB_lt l s hs (cntB l s + k) (by omega))
    have hne : l[cntB l s + k] ≠ s := fun e => hn (e ▸ List.getElem_mem _)
    omega
  unfold insB
  rw [List.pairwise_append]
  refine ⟨hs.sublist (List.take_sublist _ _), List.pairwise_cons.2 ⟨h2, hs.sublist (List.drop_sublist _ _)⟩, fun x hx y hy => ?_⟩
  rcases List.mem_cons.1 hy with rfl | hy
  · exact h1 x hx
  · have := h1 x hx; have := h2 y hy; omega
def Num (t : Trk) (x : Int) : Prop := x < t.next ∨ x ∈ t.beyond
theorem hasB_iff (t : Trk) (s : Int) (h0 : 0 ≤ s) : hasB t s = true ↔ Num t s := by
  unfold hasB Num
  by_cases h : s < t.next
  · simp [h, h0]
  · simp [h]
theorem withT_props (t : Trk) (s : Int) (hq : sqCheck t = 0) (h0 : 0 ≤ s) (hs : s ≤ 1099511627776) (hb : hasB t s = false) :
    (0 ≤ (withT t s).next ∧ (withT t s).next ≤ 1099511627777) ∧ (∀ b ∈ (withT t s).beyond, 0 ≤ b ∧ b ≤ 1099511627776) ∧ ((withT t s).next :: (withT t s).beyond).Pairwise (· < ·) ∧ (withT t s).beyond.length ≤ t.beyond.length + 1 ∧ t.next ≤ (withT t s).next ∧
      (∀ x, Num (withT t s) x ↔ x = s ∨ Num t x) ∧ (withT t s).points = t.points ∧ (withT t s).mark = t.mark := by
  obtain ⟨h1, h2, h3, h4⟩ := (sqCheck_zero t).1 hq
  obtain ⟨q1, q2⟩ := hasB_false t s h0 hb
  have h4' := List.pairwise_cons.1 h4
  unfold withT
  by_cases h : t.next < s
  · rw [if_pos h]
    refine ⟨h1, fun b hb => ?_, List.pairwise_cons.2 ⟨fun b hb => ?_, insB_sorted _ _ h4'.2 q2⟩, by rw [insB_len]; omega, Int.le_refl _, fun x => ?_, rfl, rfl⟩
    · rcases (insB_mem _ _ _).1 hb with rfl | hb
      · omega
      · exact h3 b hb
    · rcases (insB_mem _ _ _).1 hb with rfl | hb
      · exact h
      · exact h4'.1 b hb
    · unfold Num
      simp only [insB_mem]
      constructor
      · rintro (h | h | h)
        · exact Or.inr (Or.inl h)
        · exact Or.inl h
        · exact Or.inr (Or.inr h)
      · rintro (h | h | h)
        · exact Or.inr (Or.inl h)
        · exact Or.inl h
        · exact Or.inr (Or.inr h)
  · rw [if_neg h]
    obtain ⟨i1, i2, i3, i4, i5, i6⟩ := strip_props (t.next + 1) t.beyond h4'.2 (fun b hb => by have := h4'.1 b hb; omega)
    refine ⟨⟨by simp only; omega, ?_⟩, fun b hb => h3 b (i3 b hb), i4, by simp only; omega, by simp only; omega, fun x => ?_, rfl, rfl⟩
    · rcases i2 with i2 | i2
      · simp only; omega
      · have := h3 _ i2; simp only; omega
    · unfold Num
      rw [i6 x]
      constructor
      · rintro (h | h)
        · by_cases hx : x = s
          · exact Or.inl hx
          · exact Or.inr (Or.inl (by omega))
        · exact Or.inr (Or.inr h)
      · rintro (h | h | h)
        · exact Or.inl (by omega)
        · exact Or.inl (by omega)
        · exact Or.inr h
theorem withT_sq (t : Trk) (s : Int) (hq : sqCheck t = 0) (h0 : 0 ≤ s) (hs : s ≤ 1099511627776) (hb : hasB t s = false) (hl : (withT t s).beyond.length ≤ 256) : sqCheck (withT t s) = 0 := by
  obtain ⟨a, b, c, _⟩ := withT_props t s hq h0 hs hb
  exact (sqCheck_zero _).2 ⟨a, hl, b, c⟩
theorem latest_ge (mark : Int) (l : List Pt) (s : Int) : mark ≤ latest mark l s ∧ (∀ p ∈ l, p.seq ≤ s → p.time ≤ latest mark l s) ∧ (latest mark l s = mark ∨ ∃ p ∈ l, p.seq ≤ s ∧ latest mark l s = p.time) := by
  unfold latest
  have key : ∀ (l : List Pt) (a : Int), a ≤ l.foldl (fun m p => max m p.time) a ∧ (∀ p ∈ l, p.time ≤ l.foldl (fun m p => max m p.time) a) ∧ (l.foldl (fun m p => max m p.time) a = a ∨ ∃ p ∈ l, l.foldl (fun m p => max m p.time) a = p.time) := fun l => by
    induction l with
    | nil => intro a; simp
    | cons x r ih =>
      intro a
      obtain ⟨i1, i2, i3⟩ := ih (max a x.time)
      rw [List.foldl_cons]
      refine ⟨by omega, fun p hp => ?_, ?_⟩
      · rcases List.mem_cons.1 hp with rfl | hp
        · omega
        · exact i2 p hp
      · rcases i3 with i3 | ⟨p, hp, i3⟩
        · by_cases h : x.time ≤ a
          · exact Or.inl (by omega)
          · exact Or.inr ⟨x, by simp, by omega⟩
        · exact Or.inr ⟨p, by simp [hp], i3⟩
  obtain ⟨k1, k2, k3⟩ := key (l.filter fun p => decide (p.seq ≤ s)) mark
  refine ⟨k1, fun p hp h => k2 p (List.mem_filter.2 ⟨hp, by simpa using h⟩), ?_⟩
  rcases k3 with k3 | ⟨p, hp, k3⟩
  · exact Or.inl k3
  · obtain ⟨h1, h2⟩ := List.mem_filter.1 hp
    exact Or.inr ⟨p, h1, by simpa using h2, k3⟩
theorem settled_ok (u : Trk) (hq : sqCheck u = 0) (hm : -1 ≤ u.mark ∧ u.mark ≤ 1099511627776) (hl : u.points.length ≤ 256) (ho : ∀ p ∈ u.points, PtOk p) (ha : u.points.Pairwise Asc2) :
    settleT u = (settledR u, 0) ∧ TOk (settledR u) ∧ (∀ s τ, u.next ≤ s → (Forb (settledR u) s τ ↔ Forb u s τ)) ∧ u.mark ≤ (settledR u).mark := by
  obtain ⟨l1, l2, l3⟩ := latest_ge u.mark u.points u.next
  have hmk : -1 ≤ latest u.mark u.points u.next ∧ latest u.mark u.points u.next ≤ 1099511627776 := by
    refine ⟨by omega, ?_⟩
    rcases l3 with l3 | ⟨p, hp, _, l3⟩
    · omega
    · have := (ho p hp).2.2.2; omega
  have hasc : asc u ⟨-1, -1⟩ = 0 := by
    unfold asc
    rw [if_neg (by simpa using hq), if_neg (by omega), if_neg (by omega)]
    refine (ascLoop_zero _ _).2 ⟨ho, List.pairwise_cons.2 ⟨fun p hp => ?_, ha⟩⟩
    have := ho p hp
    unfold PtOk at this
    unfold Asc2
    simp only
    omega
  refine ⟨by unfold settleT; rw [if_neg (by simpa using hasc)]; rfl, ⟨?_, hmk, ?_, ?_, ?_⟩, fun s τ hs => ?_, l1⟩
  · have : sqCheck (settledR u) = sqCheck u := rfl
    rw [this]; exact hq
  · have := List.length_filter_le (fun p => decide (u.next < p.seq) && decide (latest u.mark u.points u.next < p.time)) u.points
    show (List.filter _ u.points).length ≤ 256
    omega
  · intro p hp
    exact ho p (List.mem_filter.1 hp).1
  · refine List.pairwise_cons.2 ⟨fun p hp => ?_, ha.filter _⟩
    have := (List.mem_filter.1 hp).2
    simp only [Bool.and_eq_true, decide_eq_true_eq] at this
    exact this
  · unfold Forb
    constructor
    · rintro (h | ⟨p, hp, h⟩)
      · have h : τ ≤ latest u.mark u.points u.next := h
        rcases l3 with l3 | ⟨q, hq, h3, l3⟩
        · exact Or.inl (by omega)
        · exact Or.inr ⟨q, hq, by omega, by omega⟩
      · exact Or.inr ⟨p, (List.mem_filter.1 hp).1, h⟩
    · rintro (h | ⟨p, hp, h1, h2⟩)
      · exact Or.inl (by show τ ≤ latest u.mark u.points u.next; omega)
      · by_cases h3 : u.next < p.seq ∧ latest u.mark u.points u.next < p.time
        · exact Or.inr ⟨p, List.mem_filter.2 ⟨hp, by simpa using h3⟩, h1, h2⟩
        · left
          show τ ≤ latest u.mark u.points u.next
          by_cases h4 : u.next < p.seq
          · omega
          · have := l2 p hp (by omega); omega

def noteT (t : Trk) (m : T_api_Message) : Trk × Bool × Int :=
  if m.fKind = 1 then ((addT t ⟨m.fSeq, m.fTime⟩).1, false, (addT t ⟨m.fSeq, m.fTime⟩).2) else
  if hasB t m.fEvent.fSeq = true then (t, false, 0) else
  if latest t.mark t.points m.fEvent.fSeq < m.fEvent.fTime then
    (if 256 < (withT t m.fEvent.fSeq).beyond.length then (zeroT, false, 5) else (settledR (withT t m.fEvent.fSeq), true, 0))
  else (zeroT, false, 19)
def stepT (l : List Trk) (m : T_api_Message) : List Trk × Bool × Int :=
  if msgCheck m ≠ 0 then ([], false, msgCheck m) else if (l.length : Int) ≤ srcOf m then ([], false, 32) else
  if (noteT (l.getD (srcOf m).toNat zeroT) m).2.2 ≠ 0 then ([], false, (noteT (l.getD (srcOf m).toNat zeroT) m).2.2) else
  (l.set (srcOf m).toNat (noteT (l.getD (srcOf m).toNat zeroT) m).1, (noteT (l.getD (srcOf m).toNat zeroT) m).2.1, 0)
theorem rng_iff (a b : Int) : rng a b = true ↔ 0 ≤ a ∧ a ≤ b := by simp [rng]
theorem msg_ok (m : T_api_Message) (h : msgCheck m = 0) : (m.fKind = 0 ∨ m.fKind = 1) ∧ 0 ≤ srcOf m ∧ srcOf m ≤ 7 ∧
    (m.fKind = 0 → 0 ≤ m.fEvent.fSeq ∧ m.fEvent.fSeq ≤ 1099511627776 ∧ 0 ≤ m.fEvent.fTime ∧ m.fEvent.fTime ≤ 1099511627776) ∧ (m.fKind = 1 → ptValid ⟨m.fSeq, m.fTime⟩ = true) := by
  unfold msgCheck at h
  unfold srcOf
  split at h
  · rename_i h0
    split at h
    · split at h
      · rename_i h2
        simp only [rng_iff] at h2
        rw [if_pos h0]
        exact ⟨Or.inl h0, by omega, by omega, fun _ => by omega, fun h1 => by omega⟩
      · omega
    · omega
  · rename_i h0
    split at h
    · rename_i h1
      split at h
      · split at h
        · rename_i h2
          rw [rng_iff] at h2
          rw [if_neg h0]
          exact ⟨Or.inr h1, by omega, by omega, fun h3 => absurd h3 h0, fun _ => h2.2⟩
        · omega
      · omega
    · omega
theorem event_new (t : Trk) (s : Int) (ht : TOk t) (h0 : 0 ≤ s) (hs : s ≤ 1099511627776) (hb : hasB t s = false) (hl : (withT t s).beyond.length ≤ 256) :
    settleT (withT t s) = (settledR (withT t s), 0) ∧ TOk (settledR (withT t s)) ∧ (∀ s' τ, (withT t s).next ≤ s' → (Forb (settledR (withT t s)) s' τ ↔ Forb t s' τ)) ∧ t.mark ≤ (settledR (withT t s)).mark := by
  have hq := withT_sq t s ht.sq h0 hs hb hl
  obtain ⟨_, _, _, _, _, _, hp, hm⟩ := withT_props t s ht.sq h0 hs hb
  have := settled_ok (withT t s) hq (by rw [hm]; exact ht.mark) (by rw [hp]; exact ht.len) (by rw [hp]; exact ht.ok) (by rw [hp]; exact (List.pairwise_cons.1 ht.asc).2)
  have hf : ∀ s' τ, Forb (withT t s) s' τ ↔ Forb t s' τ := fun s' τ => by unfold Forb; rw [hp, hm]
  refine ⟨this.1, this.2.1, fun s' τ h => (this.2.2.1 s' τ h).trans (hf s' τ), by rw [← hm]; exact this.2.2.2⟩
theorem noteT_ok (t : Trk) (m : T_api_Message) (ht : TOk t) (hm : msgCheck m = 0) (h : (noteT t m).2.2 = 0) : TOk (noteT t m).1 := by
  obtain ⟨k1, k2, k3, k4, k5⟩ := msg_ok m hm
  unfold noteT at h ⊢
  split
  · rename_i h1
    rw [if_pos h1] at h
    exact (added t _ h).2.2.ok
  · rename_i h1
    rw [if_neg h1] at h
    obtain ⟨e1, e2, e3, e4⟩ := k4 (by omega)
    split
    · exact ht
    · rename_i h2
      rw [if_neg h2] at h
      split
      · rename_i h3
        rw [if_pos h3] at h
        split
        · rename_i h4
          rw [if_pos h4] at h
          exact absurd h (by simp)
        · rename_i h4
          exact (event_new t _ ht e1 e2 (by simpa using h2) (by omega)).2.1
      · rename_i h3
        rw [if_neg h3] at h
        exact absurd h (by simp)
theorem p_recvE (n : Nat) (t : Trk) (m : T_api_Message) (ht : TOk t) (hm : msgCheck m = 0) (hk : m.fKind = 0) (hn : 1000 ≤ n) : ∃ r, F_watermark_receiveEvent n t m = some r ∧ r.2 = (noteT t m).2 ∧ (r.2.2 = 0 → r.1 = (noteT t m).1) := by
  obtain ⟨k1, k2, k3, k4, k5⟩ := msg_ok m hm
  obtain ⟨e1, e2, e3, e4⟩ := k4 hk
  obtain ⟨h1, h2, h3, h4⟩ := (sqCheck_zero t).1 ht.sq
  have hlp := ht.len
  unfold F_watermark_receiveEvent F_sequence_Has noteT
  rw [p_sqCheck n t (by omega) (by omega), bnd_some, ht.sq]
  simp only [cnd_not, cnd_if]
  rw [if_pos trivial, p_has n t _ (List.pairwise_cons.1 h4).2 (by omega) (by omega), bnd_some, bnd_some]
  simp only
  rw [if_pos trivial, if_neg (by omega)]
  cases hb : hasB t m.fEvent.fSeq with
  | true => rw [cnd_t, if_pos rfl]; exact ⟨_, rfl, rfl, fun _ => rfl⟩
  | false =>
    rw [cnd_f, if_neg (by simp)]
    obtain ⟨q1, q2⟩ := hasB_false t _ e1 hb
    unfold F_puAllows
    rw [if_pos (by omega), bnd_some]
    have ha : allowsT t m.fEvent.fSeq m.fEvent.fTime = (decide (latest t.mark t.points m.fEvent.fSeq < m.fEvent.fTime), 0) := by
      unfold allowsT
      rw [if_neg (by simp [(puCheck_zero t).2 ht]), if_neg (by omega), if_neg]
      rintro (h | h)
      · omega
      · rw [List.contains_iff_mem] at h; exact q2 h
    rw [ha]
    simp only
    rw [if_pos trivial, cnd_if]
    by_cases hlt : latest t.mark t.points m.fEvent.fSeq < m.fEvent.fTime
    · rw [if_pos hlt, if_pos hlt, p_recv n t _ (by omega) (by omega) hn, bnd_some]
      have hr : recvT t m.fEvent.fSeq = if 256 < (withT t m.fEvent.fSeq).beyond.length then (zeroT, false, 5) else (withT t m.fEvent.fSeq, true, 0) := by
        unfold recvT
        rw [if_neg (by simp [ht.sq]), if_neg (by omega), if_neg (by simp [hb])]
      rw [hr]
      by_cases h5 : 256 < (withT t m.fEvent.fSeq).beyond.length
      · rw [if_pos h5, if_pos h5]
        exact ⟨_, rfl, rfl, fun h => absurd h (by simp)⟩
      · rw [if_neg h5, if_neg h5]
        obtain ⟨s1, s2, s3, s4⟩ := event_new t _ ht e1 e2 hb (by omega)
        obtain ⟨_, _, _, _, _, _, hp, _⟩ := withT_props t _ ht.sq e1 e2 hb
        simp only
        rw [if_pos trivial]
        unfold F_puSettle
        rw [if_pos ⟨by omega, by rw [hp]; omega⟩, bnd_some, s1]
        exact ⟨_, rfl, rfl, fun _ => rfl⟩
    · rw [if_neg hlt, if_neg hlt]
      exact ⟨_, rfl, rfl, fun h => absurd h (by simp)⟩
theorem p_receive (n : Nat) (l : List Trk) (m : T_api_Message) (hl : l.length ≤ 1000) (ht : ∀ t ∈ l, TOk t) (hn : 1000 ≤ n) : F_watermark_receive n l m = some (stepT l m) := by
  unfold F_watermark_receive stepT
  rw [p_checkM, bnd_some]
  simp only [cnd_not, cnd_if, List.length_map]
  by_cases hm : msgCheck m = 0
  · have hw : ¬ msgCheck m ≠ 0 := by simpa using hm
    rw [if_pos hm, if_neg hw]
    obtain ⟨k1, k2, k3, k4, k5⟩ := msg_ok m hm
    have fin : ∀ (F : Option (Trk × Bool × Int)) (h : (srcOf m).toNat < l.length), (∃ r, F = some r ∧ r.2 = (noteT l[(srcOf m).toNat] m).2 ∧ (r.2.2 = 0 → r.1 = (noteT l[(srcOf m).toNat] m).1)) →
        (bnd F fun x4 => if x4.2.2 = 0 then bndR (F_clone n l) fun x5 => nat (srcOf m) x5.length fun x6 => stx x5 x6 (fun x7 => x4.1) fun x8 => some (x8, x4.2.1, 0) else some (([] : List Trk), false, x4.2.2)) =
        some (if (noteT (l.getD (srcOf m).toNat zeroT) m).2.2 ≠ 0 then ([], false, (noteT (l.getD (srcOf m).toNat zeroT) m).2.2) else (l.set (srcOf m).toNat (noteT (l.getD (srcOf m).toNat zeroT) m).1, (noteT (l.getD (srcOf m).toNat zeroT) m).2.1, 0)) := fun F h ⟨r, e, r1, r2⟩ => by
      have hg : l.getD (srcOf m).toNat zeroT = l[(srcOf m).toNat] := by simp [List.getElem?_eq_getElem h]
      rw [e, bnd_some, hg]
      have r3 : r.2.2 = (noteT l[(srcOf m).toNat] m).2.2 := by rw [r1]
      by_cases h0 : r.2.2 = 0
      · rw [if_pos h0, if_neg (by rw [← r3]; simpa using h0)]
        unfold F_clone
        rw [if_pos (by omega), bndR_some, nat_int k2 h, stx_ok h, r2 h0, r1]
      · rw [if_neg h0, if_pos (by rw [← r3]; exact h0), r3]
    by_cases hk : m.fKind = 0
    · have hs : srcOf m = m.fEvent.fSource := if_pos hk
      rw [if_pos hk]
      unfold F_watermark_kinds_1
      rw [bnd_some, ← hs]
      by_cases h5 : (l.length : Int) ≤ srcOf m
      · rw [if_pos h5, if_pos h5]
      · have h6 : (srcOf m).toNat < l.length := by omega
        rw [if_neg h5, if_neg h5, idx_int k2 h6]
        exact fin _ h6 (p_recvE n _ m (ht _ (List.getElem_mem h6)) hm hk hn)
    · have hk1 : m.fKind = 1 := by omega
      have hs : srcOf m = m.fSource := if_neg hk
      rw [if_neg hk, if_pos hk1]
      unfold F_watermark_kinds_2
      rw [bnd_some, ← hs]
      by_cases h5 : (l.length : Int) ≤ srcOf m
      · rw [if_pos h5, if_pos h5]
      · have h6 : (srcOf m).toNat < l.length := by omega
        rw [if_neg h5, if_neg h5, idx_int k2 h6]
        refine fin _ h6 ?_
        have hto := ht _ (List.getElem_mem h6)
        obtain ⟨q1, q2, q3, q4⟩ := (sqCheck_zero _).1 hto.sq
        have hlp := hto.len
        unfold F_watermark_receivePoint F_puAdd noteT
        rw [if_pos (by omega), bnd_some, if_pos hk1]
        exact ⟨_, rfl, rfl, fun _ => rfl⟩
  · rw [if_neg hm, if_pos hm]
end Go.Proofs.Ytcbdhigllelmcaa
namespace Go.Proofs.Ytcbdhigllelmcaa
open Go.RowKit

def recvAll (l : List Trk) (m : T_api_Message) : List Trk × Bool × Int := if wCheck l ≠ 0 then ([], false, wCheck l) else stepT l m
theorem stepT_ok (l : List Trk) (m : T_api_Message) (ht : ∀ t ∈ l, TOk t) (h : (stepT l m).2.2 = 0) :
    msgCheck m = 0 ∧ 0 ≤ srcOf m ∧ ∃ hs : (srcOf m).toNat < l.length, (noteT l[(srcOf m).toNat] m).2.2 = 0 ∧ stepT l m = (l.set (srcOf m).toNat (noteT l[(srcOf m).toNat] m).1, (noteT l[(srcOf m).toNat] m).2.1, 0) ∧ TOk (noteT l[(srcOf m).toNat] m).1 := by
  unfold stepT at h ⊢
  by_cases h1 : msgCheck m ≠ 0
  · rw [if_pos h1] at h; exact absurd h h1
  · rw [if_neg h1] at h ⊢
    by_cases h2 : (l.length : Int) ≤ srcOf m
    · rw [if_pos h2] at h; exact absurd h (by simp)
    · rw [if_neg h2] at h ⊢
      have hm : msgCheck m = 0 := by omega
      obtain ⟨k1, k2, k3, _⟩ := msg_ok m hm
      have hs : (srcOf m).toNat < l.length := by omega
      have hg : l.getD (srcOf m).toNat zeroT = l[(srcOf m).toNat] := by simp [List.getElem?_eq_getElem hs]
      rw [hg] at h ⊢
      by_cases h3 : (noteT l[(srcOf m).toNat] m).2.2 ≠ 0
      · rw [if_pos h3] at h; exact absurd h h3
      · rw [if_neg h3]
        have h4 : (noteT l[(srcOf m).toNat] m).2.2 = 0 := by omega
        exact ⟨hm, k2, hs, h4, rfl, noteT_ok _ m (ht _ (List.getElem_mem hs)) hm h4⟩
theorem stepT_err (l : List Trk) (m : T_api_Message) (h : (stepT l m).2.2 ≠ 0) : stepT l m = ([], false, (stepT l m).2.2) := by
  unfold stepT at h ⊢
  split
  · rfl
  · rename_i h1
    rw [if_neg h1] at h
    split
    · rfl
    · rename_i h2
      rw [if_neg h2] at h
      split
      · rfl
      · rename_i h3
        rw [if_neg h3] at h
        exact absurd rfl h
theorem set_mem {α : Type} {P : α → Prop} {l : List α} {i : Nat} {x : α} (h : ∀ t ∈ l, P t) (hx : P x) : ∀ t ∈ l.set i x, P t := fun t ht => by
  rcases List.mem_or_eq_of_mem_set ht with h1 | h1
  · exact h t h1
  · rw [h1]; exact hx
theorem stepT_all (l : List Trk) (m : T_api_Message) (ht : ∀ t ∈ l, TOk t) (h : (stepT l m).2.2 = 0) : (∀ t ∈ (stepT l m).1, TOk t) ∧ (stepT l m).1.length = l.length := by
  obtain ⟨_, _, hs, _, e, ho⟩ := stepT_ok l m ht h
  rw [e]
  exact ⟨set_mem ht ho, by simp⟩
theorem p_Receive_l1 (n : Nat) (x : List Trk × Bool × Int) (K : Bool → List Trk → Option (List Trk × Bool × Int)) (hl : x.1.length ≤ 1000) (ht : ∀ t ∈ x.1, TOk t) : ∀ (m k : Nat), k ≤ x.1.length → x.1.length < m + k → F_watermark_Receive_l1 n x K m ((k : Int), x.1) = K x.2.1 x.1
  | 0, k, h1, h2 => by omega
  | m + 1, k, h1, h2 => by
    rw [F_watermark_Receive_l1]
    simp only [List.length_map, cnd_if]
    by_cases h : k < x.1.length
    · have h0 := ht _ (List.getElem_mem h)
      have hb := ((sqCheck_zero _).1 h0.sq).2.1
      have hp := h0.len
      have e : ∀ (y : Trk), y = x.1[k] → x.1.set k y = x.1 := fun y hy => by rw [hy]; exact List.set_getElem_self h
      rw [if_pos (by omega), nat_nat h, ltx_ok h, elt_ok h]
      simp only [F_clone]
      rw [if_pos (by omega), bnd_some, nat_nat h, ltx_ok h, elt_ok h, if_pos (by omega), bnd_some, nat_nat h, ltx_ok h, stx_ok h, e _ rfl, nat_nat h, ltx_ok h, stx_ok h, e _ rfl, wrapS k (by omega)]
      exact p_Receive_l1 n x K hl ht m (k + 1) (by omega) (by omega)
    · rw [if_neg (by omega)]
theorem p_Receive (n : Nat) (l : List Trk) (m : T_api_Message) (hn : 1000 ≤ n) : F_watermark_Receive n l m = some (recvAll l m) := by
  unfold F_watermark_Receive recvAll
  rw [p_check n l (by omega), bnd_some]
  simp only [cnd_not, cnd_if]
  by_cases h : wCheck l = 0
  · have hw : ¬ wCheck l ≠ 0 := by simpa using h
    obtain ⟨hl, ht⟩ := (wCheck_zero l).1 h
    rw [if_pos h, if_neg hw, p_receive n l m (by omega) ht hn, bndR_some]
    by_cases h2 : (stepT l m).2.2 = 0
    · obtain ⟨ha, hb⟩ := stepT_all l m ht h2
      rw [if_pos h2]
      have := p_Receive_l1 n (stepT l m) (fun y z => some (z, y, 0)) (by omega) ha n 0 (by omega) (by omega)
      simp only [Int.natCast_zero] at this
      rw [this, ← h2]
    · rw [if_neg h2, ← stepT_err l m h2]
  · have hw : wCheck l ≠ 0 := h
    rw [if_neg h, if_pos hw]
def t0 : Trk := ⟨0, [], [], -1⟩
def runS : List Trk → List T_api_Message → List Trk × List Bool
  | l, [] => (l, [])
  | l, m :: r => if (stepT l m).2.2 = 0 then ((runS (stepT l m).1 r).1, (stepT l m).2.1 :: (runS (stepT l m).1 r).2) else ((runS l r).1, false :: (runS l r).2)
theorem runS_ok {l : List Trk} {m : T_api_Message} {r : List T_api_Message} (h : (stepT l m).2.2 = 0) : runS l (m :: r) = ((runS (stepT l m).1 r).1, (stepT l m).2.1 :: (runS (stepT l m).1 r).2) := by
  rw [runS, if_pos h]
theorem runS_err {l : List Trk} {m : T_api_Message} {r : List T_api_Message} (h : ¬ (stepT l m).2.2 = 0) : runS l (m :: r) = ((runS l r).1, false :: (runS l r).2) := by
  rw [runS, if_neg h]
end Go.Proofs.Ytcbdhigllelmcaa
namespace Go.Proofs.Ytcbdhigllelmcaa
open Go.RowKit

end Go.Proofs.Ytcbdhigllelmcaa
namespace Go.Proofs.Ytcbdhigllelmcaa
open Go.RowKit

structure Fwd (t u : Trk) (S : Int → Prop) (Q : Pt → Prop) : Prop where
  num : ∀ x, Num u x ↔ Num t x ∨ S x
  next : t.next ≤ u.next
  mark : t.mark ≤ u.mark
  forb : ∀ s τ, u.next ≤ s → (Forb u s τ ↔ Forb t s τ ∨ ∃ p, Q p ∧ p.seq ≤ s ∧ τ ≤ p.time)
def evOf (m : T_api_Message) (x : Int) : Prop := m.fKind = 0 ∧ x = m.fEvent.fSeq
def ptOf (m : T_api_Message) (p : Pt) : Prop := m.fKind = 1 ∧ p = ⟨m.fSeq, m.fTime⟩
theorem note_fwd (t : Trk) (m : T_api_Message) (ht : TOk t) (hm : msgCheck m = 0) (h : (noteT t m).2.2 = 0) :
    Fwd t (noteT t m).1 (evOf m) (ptOf m) ∧ (noteT t m).1.beyond.length ≤ t.beyond.length + 1 ∧ (noteT t m).1.points.length ≤ t.points.length + 1 := by
  obtain ⟨k1, k2, k3, k4, k5⟩ := msg_ok m hm
  unfold noteT at h ⊢
  by_cases h1 : m.fKind = 1
  · rw [if_pos h1] at h ⊢
    obtain ⟨_, _, ad⟩ := added t _ h
    refine ⟨⟨fun x => ?_, by rw [ad.next]; exact Int.le_refl _, ad.mark, fun s τ hs => ?_⟩, by rw [ad.beyond]; omega, ad.len⟩
    · unfold Num evOf
      rw [ad.next, ad.beyond]
      exact ⟨Or.inl, fun h => h.elim id fun h => by omega⟩
    · rw [ad.forb s τ (by rw [ad.next] at hs; exact hs)]
      unfold ptOf
      constructor
      · rintro (h | h)
        · exact Or.inl h
        · exact Or.inr ⟨_, ⟨h1, rfl⟩, h⟩
      · rintro (h | ⟨p, ⟨_, rfl⟩, h⟩)
        · exact Or.inl h
        · exact Or.inr h
  · rw [if_neg h1] at h ⊢
    have hk : m.fKind = 0 := by omega
    obtain ⟨e1, e2, e3, e4⟩ := k4 hk
    have none : ∀ s τ, ¬ ∃ p, ptOf m p ∧ p.seq ≤ s ∧ τ ≤ p.time := fun s τ ⟨p, hp, _⟩ => h1 hp.1
    by_cases hb : hasB t m.fEvent.fSeq = true
    · rw [if_pos hb] at h ⊢
      refine ⟨⟨fun x => ?_, Int.le_refl _, Int.le_refl _, fun s τ _ => ?_⟩, by simp only; omega, by simp only; omega⟩
      · constructor
        · exact Or.inl
        · rintro (h | ⟨_, rfl⟩)
          · exact h
          · exact (hasB_iff t _ e1).1 hb
      · exact ⟨Or.inl, fun h => h.elim id fun h => absurd h (none s τ)⟩
    · rw [if_neg hb] at h ⊢
      by_cases h3 : latest t.mark t.points m.fEvent.fSeq < m.fEvent.fTime
      · rw [if_pos h3] at h ⊢
        by_cases h4 : 256 < (withT t m.fEvent.fSeq).beyond.length
        · rw [if_pos h4] at h; exact absurd h (by simp)
        · rw [if_neg h4]
          obtain ⟨s1, s2, s3, s4⟩ := event_new t _ ht e1 e2 (by simpa using hb) (by omega)
          obtain ⟨w1, w2, w3, w4, w5, w6, w7, w8⟩ := withT_props t _ ht.sq e1 e2 (by simpa using hb)
          refine ⟨⟨fun x => ?_, w5, s4, fun s τ hs => ?_⟩, w4, ?_⟩
          · have : Num (settledR (withT t m.fEvent.fSeq)) x ↔ Num (withT t m.fEvent.fSeq) x := Iff.rfl
            rw [this, w6 x]
            unfold evOf
            constructor
            · rintro (h | h)
              · exact Or.inr ⟨hk, h⟩
              · exact Or.inl h
            · rintro (h | h)
              · exact Or.inr h
              · exact Or.inl h.2
          · rw [s3 s τ hs]
            exact ⟨Or.inl, fun h => h.elim id fun h => absurd h (none s τ)⟩
          · have := List.length_filter_le (fun p => decide ((withT t m.fEvent.fSeq).next < p.seq) && decide (latest (withT t m.fEvent.fSeq).mark (withT t m.fEvent.fSeq).points (withT t m.fEvent.fSeq).next < p.time)) (withT t m.fEvent.fSeq).points
            show (List.filter _ (withT t m.fEvent.fSeq).points).length ≤ _
            rw [w7] at this ⊢
            omega
      · rw [if_neg h3] at h; exact absurd h (by simp)
theorem note_late (t : Trk) (m : T_api_Message) (hm : msgCheck m = 0) (h : (noteT t m).2.1 = true) : t.mark < m.fEvent.fTime := by
  unfold noteT at h
  by_cases h1 : m.fKind = 1
  · rw [if_pos h1] at h; exact absurd h (by simp)
  · rw [if_neg h1] at h
    by_cases hb : hasB t m.fEvent.fSeq = true
    · rw [if_pos hb] at h; exact absurd h (by simp)
    · rw [if_neg hb] at h
      by_cases h3 : latest t.mark t.points m.fEvent.fSeq < m.fEvent.fTime
      · have := (latest_ge t.mark t.points m.fEvent.fSeq).1
        omega
      · rw [if_neg h3] at h; exact absurd h (by simp)

theorem later (g : Int) : ∀ (ms : List T_api_Message) (l : List Trk), (∀ t ∈ l, TOk t) → (∀ t ∈ l, g ≤ t.mark) → ∀ i (hi : i < ms.length) (hj : i < (runS l ms).2.length), (runS l ms).2[i] = true → g < ms[i].fEvent.fTime
  | [], l, ht, hg, i, hi, hj, h => absurd hi (by simp)
  | m :: r, l, ht, hg, i, hi, hj, h => by
    by_cases he : (stepT l m).2.2 = 0
    · obtain ⟨hm, k2, hs, h4, e, ho⟩ := stepT_ok l m ht he
      obtain ⟨a1, a2⟩ := stepT_all l m ht he
      have hg2 : ∀ t ∈ (stepT l m).1, g ≤ t.mark := fun t h => by
        rw [e] at h
        have := (note_fwd _ m (ht _ (List.getElem_mem hs)) hm h4).1.mark
        exact set_mem (P := fun t => g ≤ t.mark) hg (by have := hg _ (List.getElem_mem hs); omega) t h
      cases i with
      | zero =>
        simp only [runS_ok he, List.getElem_cons_zero] at h ⊢
        rw [e] at h
        have := note_late _ m hm h
        have := hg _ (List.getElem_mem hs)
        omega
      | succ i =>
        simp only [runS_ok he, List.getElem_cons_succ] at h ⊢
        exact later g r _ a1 hg2 i (by simpa using hi) (by simp only [runS_ok he] at hj; simpa using hj) h
    · cases i with
      | zero =>
        simp only [runS_err he, List.getElem_cons_zero] at h
        exact absurd h (by simp)
      | succ i =>
        simp only [runS_err he, List.getElem_cons_succ] at h ⊢
        exact later g r l ht hg i (by simpa using hi) (by simp only [runS_err he] at hj; simpa using hj) h
end Go.Proofs.Ytcbdhigllelmcaa
namespace Go.Proofs.Ytcbdhigllelmcaa
open Go.RowKit

structure Fill (l0 l : List Trk) (i : Nat) (hi : i < l0.length) (S : Int → Prop) : Prop where
  ok : ∀ t ∈ l, TOk t
  len : l.length = l0.length
  fwd : ∀ h : i < l.length, Fwd l0[i] l[i] S (fun _ => False)
end Go.Proofs.Ytcbdhigllelmcaa
namespace Go.Proofs.Ytcbdhigllelmcaa
open Go.RowKit

structure Hon (k : Nat) (H : T_api_Message → Prop) : Prop where
  ok : ∀ m, H m → msgCheck m = 0
  src : ∀ m, H m → srcOf m < (k : Int)
  fit : ∀ a b, H a → H b → srcOf a = srcOf b → a.fKind = 0 → b.fKind = 1 → ¬ (b.fSeq ≤ a.fEvent.fSeq ∧ a.fEvent.fTime ≤ b.fTime)
def Evs (d : List T_api_Message) (i : Int) (x : Int) : Prop := ∃ m ∈ d, srcOf m = i ∧ evOf m x
def PtsM (d : List T_api_Message) (i : Int) (p : Pt) : Prop := ∃ m ∈ d, srcOf m = i ∧ ptOf m p
structure Got (k : Nat) (l : List Trk) (d : List T_api_Message) : Prop where
  len : l.length = k
  ok : ∀ t ∈ l, TOk t
  fwd : ∀ i (h : i < l.length), Fwd t0 l[i] (Evs d (i : Int)) (PtsM d (i : Int))
  bl : ∀ t ∈ l, t.beyond.length ≤ d.length
  pl : ∀ t ∈ l, t.points.length ≤ d.length
end Go.Proofs.Ytcbdhigllelmcaa
namespace Go.Proofs.Ytcbdhigllelmcaa
open Go.RowKit

abbrev Rd := T_api_Reader
abbrev Ms := T_api_Message
def zeroR : Rd := ⟨0, 0, ⟨0, [], [], 0⟩⟩
def zeroE : Ev47 := ⟨0, 0, 0, 0, []⟩
def rdErr (r : Rd) : Int := if r.fSource < 0 ∨ 8 ≤ r.fSource then 32 else if r.fOffset < 0 ∨ 4096 < r.fOffset then 30 else puCheck r.fTracker
theorem p_rdCheck (n : Nat) (r : Rd) : F_reader_Check n r = some (rdErr r) := by
  unfold F_reader_Check F_puCheck rdErr
  simp only [cnd_if, bnd_some]
  (repeat' split) <;> first | rfl | (exfalso; omega)
structure ROk (r : Rd) : Prop where
  s : 0 ≤ r.fSource ∧ r.fSource ≤ 7
  o : 0 ≤ r.fOffset ∧ r.fOffset ≤ 4096
  t : TOk r.fTracker
theorem rdErr_zero (r : Rd) : rdErr r = 0 ↔ ROk r := by
  unfold rdErr
  constructor
  · intro h
    by_cases h1 : r.fSource < 0 ∨ 8 ≤ r.fSource
    · rw [if_pos h1] at h; exact absurd h (by decide)
    · rw [if_neg h1] at h
      by_cases h2 : r.fOffset < 0 ∨ 4096 < r.fOffset
      · rw [if_pos h2] at h; exact absurd h (by decide)
      · rw [if_neg h2] at h
        exact ⟨by omega, by omega, (puCheck_zero _).1 h⟩
  · intro h
    obtain ⟨h1, h2, h3⟩ := h
    rw [if_neg (by omega), if_neg (by omega)]
    exact (puCheck_zero _).2 h3
def beginR (s : Int) : Rd × Int := if s < 0 ∨ 8 ≤ s then (zeroR, 32) else (⟨s, 0, t0⟩, 0)
theorem p_beginR (n : Nat) (s : Int) : F_reader_Begin n s = some (beginR s) := by
  unfold F_reader_Begin F_sequence_Begin beginR
  simp only [cnd_if, bnd_some]
  (repeat' split) <;> first | rfl | (exfalso; omega)
def refuse (l : List Sch) (r : Rd) (m : Ms) : Prop := msgCheck m ≠ 0 ∨ srcOf m ≠ r.fSource ∨ (m.fKind = 0 ∧ evErr l m.fEvent ≠ 0) ∨ (noteT r.fTracker m).2.2 ≠ 0
instance (l : List Sch) (r : Rd) (m : Ms) : Decidable (refuse l r m) := by unfold refuse; infer_instance
def itemsOf (t u : Trk) (fresh : Bool) (e : Ev47) : List It := (if fresh = true then [⟨0, e, 0⟩] else []) ++ (if t.mark < u.mark then [⟨1, zeroE, u.mark⟩] else [])
def nextS (l : List Sch) (r : Rd) (m : Ms) : Rd × List It :=
  if refuse l r m then (⟨r.fSource, r.fOffset + 1, r.fTracker⟩, []) else
  (⟨r.fSource, r.fOffset + 1, (noteT r.fTracker m).1⟩, itemsOf r.fTracker (noteT r.fTracker m).1 (noteT r.fTracker m).2.1 m.fEvent)
theorem p_acc_l1 (n : Nat) (m : Ms) (r : Rd) (x : List Trk) (K : List Trk → Option (Trk × Bool × Bool)) (hl : x.length ≤ 1000) : ∀ (f k : Nat), k ≤ x.length → x.length < f + k → F_reader_accept_l1 n m r x K f ((k : Int), List.replicate k t0 ++ x.drop k) = K (List.replicate x.length t0)
  | 0, k, h1, h2 => by omega
  | f + 1, k, h1, h2 => by
    rw [F_reader_accept_l1]
    simp only [List.length_map, cnd_if]
    by_cases h : k < x.length
    · have hk : k < (List.replicate k t0 ++ x.drop k).length := by simp; omega
      rw [if_pos (by omega), show F_sequence_Begin n = some t0 from rfl, bnd_some, nat_nat hk, stx_ok hk, wrapS k (by omega)]
      have e : (List.replicate k t0 ++ x.drop k).set k t0 = List.replicate (k + 1) t0 ++ x.drop (k + 1) := by
        rw [dropK_cons h, List.set_append_right _ _ (by simp), List.length_replicate, Nat.sub_self, List.set_cons_zero, List.replicate_succ', List.append_assoc]
        rfl
      rw [e]
      exact p_acc_l1 n m r x K hl f (k + 1) (by omega) (by omega)
    · have : k = x.length := by omega
      rw [if_neg (by omega), this, List.drop_eq_nil_of_le (Nat.le_refl _), List.append_nil]
theorem p_acc_l2 (n : Nat) (m : Ms) (r : Rd) (x : List Trk) (K : List Trk → Option (Trk × Bool × Bool)) (hl : x.length ≤ 1000) : ∀ (f k : Nat), k ≤ x.length → x.length < f + k → F_reader_accept_l2 n m r x K f ((k : Int), List.replicate k t0 ++ x.drop k) = K (List.replicate x.length t0)
  | 0, k, h1, h2 => by omega
  | f + 1, k, h1, h2 => by
    rw [F_reader_accept_l2]
    simp only [List.length_map, cnd_if]
    by_cases h : k < x.length
    · have hk : k < (List.replicate k t0 ++ x.drop k).length := by simp; omega
      rw [if_pos (by omega), show F_sequence_Begin n = some t0 from rfl, bnd_some, nat_nat hk, stx_ok hk, wrapS k (by omega)]
      have e : (List.replicate k t0 ++ x.drop k).set k t0 = List.replicate (k + 1) t0 ++ x.drop (k + 1) := by
        rw [dropK_cons h, List.set_append_right _ _ (by simp), List.length_replicate, Nat.sub_self, List.set_cons_zero, List.replicate_succ', List.append_assoc]
        rfl
      rw [e]
      exact p_acc_l2 n m r x K hl f (k + 1) (by omega) (by omega)
    · have : k = x.length := by omega
      rw [if_neg (by omega), this, List.drop_eq_nil_of_le (Nat.le_refl _), List.append_nil]
theorem t0_ok : TOk t0 := (puCheck_zero _).1 (by decide)
theorem acc_tail (n : Nat) (r : Rd) (m : Ms) (hr : ROk r) (hm : msgCheck m = 0) (hs : srcOf m = r.fSource) (hn : 1000 ≤ n) (j : Nat) (hj : (j : Int) = r.fSource + 1) :
    (nat r.fSource (List.map aTrk (List.replicate j t0)).length fun x46 => stx (List.replicate j t0) x46 (fun x47 => r.fTracker) fun x48 =>
    frz 41 <| reg <| bnd (F_watermark_Receive n x48 m) fun x49 =>
    cnd (!decide (x49.2.2 = 0)) (some (r.fTracker, false, false)) <| idx x49.1 r.fSource fun x50 => some (x50, x49.2.1, true)) =
    some (if (noteT r.fTracker m).2.2 ≠ 0 then (r.fTracker, false, false) else ((noteT r.fTracker m).1, (noteT r.fTracker m).2.1, true)) := by
  obtain ⟨i, hi⟩ : ∃ i : Nat, r.fSource = (i : Int) := ⟨r.fSource.toNat, by have := hr.s; omega⟩
  have hj' : j = i + 1 := by omega
  subst hj'
  have hs7 := hr.s
  rw [hi, nat_nat (by simp), stx_ok (by simp), frz_eq, reg_eq, p_Receive n _ m hn, bnd_some]
  have hok : wCheck ((List.replicate (i + 1) t0).set i r.fTracker) = 0 := (wCheck_zero _).2 ⟨by simp; omega, fun t ht => by
    rcases List.mem_or_eq_of_mem_set ht with h | h
    · rw [List.eq_of_mem_replicate h]; exact t0_ok
    · rw [h]; exact hr.t⟩
  have hget : ((List.replicate (i + 1) t0).set i r.fTracker).getD i zeroT = r.fTracker := by
    rw [List.getD_eq_getElem?_getD, List.getElem?_set_self (by simp)]; rfl
  have hrec : recvAll ((List.replicate (i + 1) t0).set i r.fTracker) m = stepT ((List.replicate (i + 1) t0).set i r.fTracker) m := if_neg (by simpa using hok)
  rw [hrec]
  unfold stepT
  rw [if_neg (by simpa using hm), hs, hi, if_neg (by simp; omega), Int.toNat_natCast, hget]
  by_cases h : (noteT r.fTracker m).2.2 = 0
  · rw [if_nne h, if_nne h]
    simp only [cnd_not, decide_true, cnd_t]
    rw [idx_nat (by simp)]
    simp
  · rw [if_pos h, if_pos h]
    simp only [cnd_not, cnd_if]
    rw [if_neg h]
theorem p_accept (n : Nat) (l : List Sch) (r : Rd) (m : Ms) (hr : ROk r) (ha : allErr l = 0) (hv : m.fEvent.fValues.length ≤ 12) (hn : 1000 ≤ n) :
    F_reader_accept n l r m = some (if refuse l r m then (r.fTracker, false, false) else ((noteT r.fTracker m).1, (noteT r.fTracker m).2.1, true)) := by
  unfold F_reader_accept F_reader_origin
  simp only [cnd_not, cnd_if, p_checkM, bnd_some]
  have hs7 := hr.s
  have hj : r.fSource + 1 = (((r.fSource + 1).toNat : Nat) : Int) := by omega
  by_cases h1 : msgCheck m = 0
  · rw [if_pos h1]
    have e : (if m.fKind = 0 then some m.fEvent.fSource else some m.fSource) = some (srcOf m) := by unfold srcOf; split <;> rfl
    rw [e, bnd_some]
    by_cases h2 : srcOf m = r.fSource
    · rw [if_pos h2]
      by_cases h3 : m.fKind = 0
      · rw [if_pos h3, p_evCheck n l m.fEvent (by omega) (by omega) (by omega) ha, bnd_some]
        by_cases h4 : evErr l m.fEvent = 0
        · rw [if_pos h4, wrap_in (r.fSource + 1) (by omega), hj, mak_ok (by omega) (by omega)]
          have := p_acc_l1 n m r (List.replicate (r.fSource + 1).toNat (⟨0, [], [], 0⟩ : Trk)) (fun y => nat r.fSource (List.map aTrk y).length fun x46 => stx y x46 (fun x47 => r.fTracker) fun x48 =>
            frz 41 <| reg <| bnd (F_watermark_Receive n x48 m) fun x49 => cnd (!decide (x49.2.2 = 0)) (some (r.fTracker, false, false)) <| idx x49.1 r.fSource fun x50 => some (x50, x49.2.1, true)) (by simp; omega) n 0 (by omega) (by simp; omega)
          simp only [Int.natCast_zero, List.replicate_zero, List.nil_append, List.drop_zero, List.length_replicate] at this
          simp only [cnd_not, cnd_if] at this ⊢
          rw [this]
          have ht := acc_tail n r m hr h1 h2 hn _ hj.symm
          simp only [cnd_not, cnd_if] at ht
          rw [ht]
          by_cases h5 : (noteT r.fTracker m).2.2 = 0
          · rw [if_nne h5, if_neg (show ¬ refuse l r m by unfold refuse; simp [h1, h2, h4, h5])]
          · rw [if_pos h5, if_pos (show refuse l r m from Or.inr (Or.inr (Or.inr h5)))]
        · rw [if_neg h4, if_pos (show refuse l r m from Or.inr (Or.inr (Or.inl ⟨h3, h4⟩)))]
      · rw [if_neg h3, wrap_in (r.fSource + 1) (by omega), hj, mak_ok (by omega) (by omega)]
        have := p_acc_l2 n m r (List.replicate (r.fSource + 1).toNat (⟨0, [], [], 0⟩ : Trk)) (fun y => nat r.fSource (List.map aTrk y).length fun x46 => stx y x46 (fun x47 => r.fTracker) fun x48 =>
          frz 41 <| reg <| bnd (F_watermark_Receive n x48 m) fun x49 => cnd (!decide (x49.2.2 = 0)) (some (r.fTracker, false, false)) <| idx x49.1 r.fSource fun x50 => some (x50, x49.2.1, true)) (by simp; omega) n 0 (by omega) (by simp; omega)
        simp only [Int.natCast_zero, List.replicate_zero, List.nil_append, List.drop_zero, List.length_replicate] at this
        simp only [cnd_not, cnd_if] at this ⊢
        rw [this]
        have ht := acc_tail n r m hr h1 h2 hn _ hj.symm
        simp only [cnd_not, cnd_if] at ht
        rw [ht]
        by_cases h5 : (noteT r.fTracker m).2.2 = 0
        · rw [if_nne h5, if_neg (show ¬ refuse l r m by unfold refuse; simp [h1, h2, h3, h5])]
        · rw [if_pos h5, if_pos (show refuse l r m from Or.inr (Or.inr (Or.inr h5)))]
    · rw [if_neg h2, if_pos (show refuse l r m from Or.inr (Or.inl h2))]
  · rw [if_neg h1, if_pos (show refuse l r m from Or.inl h1)]
theorem items_tail (t u : Trk) (b : Bool) (e : Ev47) (f : List It → Option (Rd × List It)) :
    cnd b (app ([] : List It) ([⟨0, e, 0⟩]) 72 fun x2 => if t.mark < u.mark then app x2 ([⟨1, ⟨0, 0, 0, 0, []⟩, u.mark⟩]) 72 f else f x2) (if t.mark < u.mark then app ([] : List It) ([⟨1, ⟨0, 0, 0, 0, []⟩, u.mark⟩]) 72 f else f []) = f (itemsOf t u b e) := by
  unfold itemsOf
  cases b with
  | true =>
    rw [cnd_t, app_ok (by simp) (by omega), if_pos rfl]
    by_cases h : t.mark < u.mark
    · rw [if_pos h, if_pos h, app_ok (by simp) (by omega)]; rfl
    · rw [if_neg h, if_neg h]; rfl
  | false =>
    rw [cnd_f, if_neg (show ¬ (false = true) by decide)]
    by_cases h : t.mark < u.mark
    · rw [if_pos h, if_pos h, app_ok (by simp) (by omega)]; rfl
    · rw [if_neg h, if_neg h]; rfl
theorem p_read1 (n : Nat) (l : List Sch) (r : Rd) (m : Ms) (hr : ROk r) (ha : allErr l = 0) (hv : m.fEvent.fValues.length ≤ 12) (hn : 1000 ≤ n) : F_reader_read n l r m = some (nextS l r m) := by
  unfold F_reader_read nextS
  have ho := hr.o
  rw [p_accept n l r m hr ha hv hn, bnd_some, wrap_in (r.fOffset + 1) (by omega)]
  by_cases h : refuse l r m
  · rw [if_pos h, if_pos h]; simp only [cnd_not, cnd_f]
  · rw [if_neg h, if_neg h]
    simp only [cnd_not, cnd_t, cnd_if]
    exact items_tail r.fTracker (noteT r.fTracker m).1 (noteT r.fTracker m).2.1 m.fEvent (fun x => some (⟨r.fSource, r.fOffset + 1, (noteT r.fTracker m).1⟩, x))
theorem next_src (l : List Sch) (r : Rd) (m : Ms) : (nextS l r m).1.fSource = r.fSource ∧ (nextS l r m).1.fOffset = r.fOffset + 1 := by unfold nextS; split <;> exact ⟨rfl, rfl⟩
theorem next_trk (l : List Sch) (r : Rd) (m : Ms) (ht : TOk r.fTracker) : TOk (nextS l r m).1.fTracker := by
  unfold nextS
  by_cases h : refuse l r m
  · rw [if_pos h]; exact ht
  · rw [if_neg h]
    unfold refuse at h
    simp only [not_or, Decidable.not_not] at h
    exact noteT_ok _ m ht h.1 h.2.2.2
theorem items_len (t u : Trk) (b : Bool) (e : Ev47) : (itemsOf t u b e).length ≤ 2 := by
  unfold itemsOf
  (repeat' split) <;> simp
theorem next_len (l : List Sch) (r : Rd) (m : Ms) : (nextS l r m).2.length ≤ 2 := by
  unfold nextS
  split
  · simp
  · exact items_len _ _ _ _
def runR (l : List Sch) : Rd → List Ms → Rd × List It
  | r, [] => (r, [])
  | r, m :: ms => ((runR l (nextS l r m).1 ms).1, (nextS l r m).2 ++ (runR l (nextS l r m).1 ms).2)
theorem runR_trk (l : List Sch) : ∀ (ms : List Ms) (r : Rd), TOk r.fTracker → TOk (runR l r ms).1.fTracker
  | [], r, h => h
  | m :: ms, r, h => runR_trk l ms _ (next_trk l r m h)
def plErr (r : Rd) (log : List Ms) (more : Int) : Int := if rdErr r ≠ 0 then rdErr r else if 4096 < log.length then 5 else if (log.length : Int) < r.fOffset + more then 30 else 0
theorem plErr_zero {r : Rd} {log : List Ms} {more : Int} (h : plErr r log more = 0) : ROk r ∧ log.length ≤ 4096 ∧ r.fOffset + more ≤ (log.length : Int) := by
  unfold plErr at h
  by_cases h1 : rdErr r = 0
  · rw [if_nne h1] at h
    by_cases h2 : 4096 < log.length
    · rw [if_pos h2] at h; exact absurd h (by decide)
    · rw [if_neg h2] at h
      by_cases h3 : (log.length : Int) < r.fOffset + more
      · rw [if_pos h3] at h; exact absurd h (by decide)
      · exact ⟨(rdErr_zero r).1 h1, by omega, by omega⟩
  · rw [if_pos h1] at h; exact absurd h h1
theorem p_check47 (n : Nat) (r : Rd) (log : List Ms) (more : Int) (h0 : 0 ≤ more ∧ more ≤ 1) : F_reader_check n r log more = some (plErr r log more) := by
  unfold F_reader_check plErr
  rw [p_rdCheck, bnd_some]
  simp only [cnd_not, cnd_if, List.length_map]
  by_cases h1 : rdErr r = 0
  · have := (rdErr_zero r).1 h1
    have ho := this.o
    rw [if_pos h1, if_nne h1]
    by_cases h2 : 4096 < log.length
    · rw [if_pos (show (4096 : Int) < (log.length : Int) by omega), if_pos h2]
    · rw [if_neg (show ¬ (4096 : Int) < (log.length : Int) by omega), if_neg h2, wrap_in ((log.length : Int) - r.fOffset) (by omega)]
      by_cases h3 : (log.length : Int) < r.fOffset + more
      · rw [if_pos (by omega), if_pos h3]
      · rw [if_neg (by omega), if_neg h3]
  · rw [if_neg h1, if_pos h1]
theorem p_owned (n : Nat) (r : Rd) (h : TOk r.fTracker) : F_reader_owned n r = some r := by
  unfold F_reader_owned F_clone
  have hb : r.fTracker.beyond.length ≤ 1000 := by
    have := h.sq
    unfold sqCheck at this
    split at this
    · exact absurd this (by decide)
    · split at this
      · exact absurd this (by decide)
      · omega
  have hp := h.len
  rw [if_pos (by omega), bnd_some, if_pos (by omega), bnd_some]
def readS (l : List Sch) (r : Rd) (log : List Ms) : Rd × List It × Int :=
  if allErr l ≠ 0 then (zeroR, [], allErr l) else if plErr r log 1 ≠ 0 then (zeroR, [], plErr r log 1) else
  ((nextS l r (log.getD r.fOffset.toNat default)).1, (nextS l r (log.getD r.fOffset.toNat default)).2, 0)
theorem getD_log {l : List Ms} {k : Nat} (h : k < l.length) : l.getD k default = l[k] := by
  rw [List.getD_eq_getElem?_getD, List.getElem?_eq_getElem h]; rfl
theorem p_Read (n : Nat) (l : List Sch) (r : Rd) (log : List Ms) (hv : ∀ m ∈ log, m.fEvent.fValues.length ≤ 12) (hn : 1000 ≤ n) : F_reader_Read n l r log = some (readS l r log) := by
  unfold F_reader_Read readS
  rw [p_all n l (by omega), bnd_some, p_check47 n r log 1 (by omega), bnd_some]
  simp only [cnd_not, cnd_if]
  by_cases h1 : allErr l = 0
  · rw [if_pos h1, if_nne h1]
    by_cases h2 : plErr r log 1 = 0
    · obtain ⟨hr, h3, h4⟩ := plErr_zero h2
      have ho := hr.o
      have hk : r.fOffset.toNat < log.length := by omega
      rw [if_pos h2, if_nne h2, idx_int (by omega) hk, getD_log hk, p_read1 n l r _ hr h1 (hv _ (List.getElem_mem hk)) hn, bnd_some, p_owned n _ (next_trk l r _ hr.t), bnd_some]
    · rw [if_neg h2, if_pos h2]; rfl
  · rw [if_neg h1, if_pos h1]; rfl
def replS (l : List Sch) (r : Rd) (log : List Ms) : Rd × List It × Int :=
  if allErr l ≠ 0 then (zeroR, [], allErr l) else if plErr r log 0 ≠ 0 then (zeroR, [], plErr r log 0) else
  ((runR l r (log.drop r.fOffset.toNat)).1, (runR l r (log.drop r.fOffset.toNat)).2, 0)
theorem ROk.next {l : List Sch} {r : Rd} {m : Ms} (hr : ROk r) (ho : r.fOffset ≤ 4095) : ROk (nextS l r m).1 := by
  have h := next_src l r m
  have h1 := hr.s
  have h2 := hr.o
  exact ⟨by rw [h.1]; exact h1, by rw [h.2]; omega, next_trk l r m hr.t⟩
theorem p_steps_l1 (n : Nat) (l : List Sch) (m2 xs : List Ms) (ha : allErr l = 0) (hv : ∀ m ∈ xs, m.fEvent.fValues.length ≤ 12) (hn : 1000 ≤ n) (hl : xs.length ≤ 4096) {β : Type}
    (K : Int → Int → Int → (List Int) → (List Pt) → Int → Int → Int → Int → (List Int) → (List Pt) → Int → (List T_api_Item) → Option ((List T_api_Item) × T_api_Reader × (List T_api_Message) × T_api_Reader × (List T_api_Schema))) : ∀ (f k : Nat) (r : Rd) (out : List It), k ≤ xs.length → xs.length < f + k → ROk r → r.fOffset + ((xs.length - k : Nat) : Int) ≤ 4096 → out.length + 2 * (xs.length - k) ≤ 20000 →
    F_reader_steps_1_l1 n l m2 xs K f ((k : Int), r.fSource, r.fOffset, r.fTracker.next, r.fTracker.beyond, r.fTracker.points, r.fTracker.mark, r.fSource, r.fOffset, r.fTracker.next, r.fTracker.beyond, r.fTracker.points, r.fTracker.mark, out) =
    (fun (q : Rd × List It) => K q.1.fSource q.1.fOffset q.1.fTracker.next q.1.fTracker.beyond q.1.fTracker.points q.1.fTracker.mark q.1.fSource q.1.fOffset q.1.fTracker.next q.1.fTracker.beyond q.1.fTracker.points q.1.fTracker.mark (out ++ q.2)) (runR l r (xs.drop k))
  | 0, k, r, out, h1, h2, h3, h4, h5 => by omega
  | f + 1, k, r, out, h1, h2, h3, h4, h5 => by
    rw [F_reader_steps_1_l1]
    simp only [List.length_map, cnd_if]
    by_cases h : k < xs.length
    · have hrr : (⟨r.fSource, r.fOffset, ⟨r.fTracker.next, r.fTracker.beyond, r.fTracker.points, r.fTracker.mark⟩⟩ : Rd) = r := rfl
      have hlen := next_len l r xs[k]
      have hoff := next_src l r xs[k]
      rw [if_pos (by omega), idx_nat h, hrr, p_read1 n l r _ h3 ha (hv _ (List.getElem_mem h)) hn, bnd_some]
      unfold F_reader_Replay_b9
      rw [app_ok (by omega) (by omega), bnd_some, wrapS k (by omega)]
      rw [p_steps_l1 n l m2 xs ha hv hn hl (β := β) K f (k + 1) (nextS l r xs[k]).1 (out ++ (nextS l r xs[k]).2) (by omega) (by omega) (h3.next (by omega)) (by rw [hoff.2]; omega) (by rw [List.length_append]; omega), dropK_cons h, runR]
      simp only [List.append_assoc]
    · rw [if_neg (by omega), List.drop_eq_nil_of_le (by omega), runR, List.append_nil]
theorem p_Replay (n : Nat) (l : List Sch) (r : Rd) (log : List Ms) (hv : ∀ m ∈ log, m.fEvent.fValues.length ≤ 12) (hn : 10000 ≤ n) : F_reader_Replay n l r log = some (replS l r log) := by
  unfold F_reader_Replay replS F_reader_steps F_reader_steps_1
  rw [p_all n l (by omega), bnd_some, p_check47 n r log 0 (by omega), bnd_some]
  simp only [cnd_not, cnd_if]
  by_cases h1 : allErr l = 0
  · rw [if_pos h1, if_nne h1]
    by_cases h2 : plErr r log 0 = 0
    · obtain ⟨hr, h3, h4⟩ := plErr_zero h2
      have ho := hr.o
      obtain ⟨k, hk⟩ : ∃ k : Nat, r.fOffset = (k : Int) := ⟨r.fOffset.toNat, by omega⟩
      rw [if_pos h2, if_nne h2, bnd_some]
      simp only [List.length_map]
      rw [hk, Int.toNat_natCast, sls_ok (by omega) (Nat.le_refl _), List.take_length]
      have := p_steps_l1 n l log (log.drop k) h1 (fun m hm => hv m (List.mem_of_mem_drop hm)) (by omega) (by simp; omega) (β := Unit) (fun k1_0_0y0 k1_0_0y1 k1_0_0y2 k1_0_0y3 k1_0_0y4 k1_0_0y5 k1_0_0y6 k1_0_0y7 k1_0_0y8 k1_0_0y9 k1_0_0y10 k1_0_0y11 k1_0_0y12 => some (k1_0_0y12, ⟨k1_0_0y0, k1_0_0y1, ⟨k1_0_0y2, k1_0_0y3, k1_0_0y4, k1_0_0y5⟩⟩, log, ⟨k1_0_0y6, k1_0_0y7, ⟨k1_0_0y8, k1_0_0y9, k1_0_0y10, k1_0_0y11⟩⟩, l)) n 0 r [] (by omega) (by simp; omega) hr (by simp; omega) (by simp; omega)
      simp only [Int.natCast_zero, List.drop_zero, List.nil_append, hk] at this
      rw [this, bnd_some]
      have hrr : ∀ r : Rd, (⟨r.fSource, r.fOffset, ⟨r.fTracker.next, r.fTracker.beyond, r.fTracker.points, r.fTracker.mark⟩⟩ : Rd) = r := fun _ => rfl
      simp only [hrr]
      rw [p_owned n _ (runR_trk l _ r hr.t), bnd_some]
    · rw [if_neg h2, if_pos h2]; rfl
  · rw [if_neg h1, if_pos h1]; rfl
end Go.Proofs.Ytcbdhigllelmcaa
