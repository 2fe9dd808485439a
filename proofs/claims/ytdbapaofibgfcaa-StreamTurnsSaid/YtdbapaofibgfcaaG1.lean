/- Plain laws of the forms of terms (G0). -/
import Derived.Test.YtdbapaofibgfcaaG0
import Derived.Test.YtdbapaofibgfcaaAm0
set_option linter.unusedVariables false
set_option linter.unusedSimpArgs false
namespace Go.Proofs.Ytdbapaofibgfcaa
open Go.RowKit

section
variable {α β : Type}
theorem cnd_t (x y : Option β) : cnd true x y = x := by unfold cnd; rfl
theorem cnd_f (x y : Option β) : cnd false x y = y := by unfold cnd; rfl
theorem cnd_if (p : Prop) [Decidable p] (x y : Option β) : cnd (decide p) x y = if p then x else y := by
  by_cases h : p <;> simp [h, cnd_t, cnd_f]
theorem cnd_not (b : Bool) (x y : Option β) : cnd (!b) x y = cnd b y x := by cases b <;> simp [cnd_t, cnd_f]
theorem cnd_b (b : Bool) (x y : Option β) : cnd b x y = if b = true then x else y := by cases b <;> simp [cnd_t, cnd_f]
theorem bnd_some (a : α) (k : α → Option β) : bnd (some a) k = k a := by unfold bnd; rfl
theorem bndR_some (a : α) (k : α → Option β) : bndR (some a) k = k a := by unfold bndR; rfl
theorem bndC_some (a : α) (k : α → Option β) : bndC (some a) k = k a := by unfold bndC; rfl
theorem reg_eq (x : Option β) : reg x = x := by unfold reg; rfl
theorem frz_eq (i : Nat) (x : Option β) : frz i x = x := by unfold frz; rfl
theorem idx_nat {l : List α} {i : Nat} (h : i < l.length) (k : α → Option β) : idx l (i : Int) k = k l[i] := by
  unfold idx
  simp [h]
theorem idx_int {l : List α} {n : Int} (h0 : 0 ≤ n) (h : n.toNat < l.length) (k : α → Option β) : idx l n k = k l[n.toNat] := by
  unfold idx
  simp [h, h0]
theorem idx_zero {x : α} {l : List α} (k : α → Option β) : idx (x :: l) 0 k = k x := by unfold idx; simp
theorem nat_nat {i len : Nat} (h : i < len) (k : Nat → Option β) : nat (i : Int) len k = k i := by
  unfold nat
  simp [h]
theorem nat_int {n : Int} {len : Nat} (h0 : 0 ≤ n) (h : n.toNat < len) (k : Nat → Option β) : nat n len k = k n.toNat := by
  unfold nat
  simp [h, h0]
theorem ltx_ok {m len : Nat} (h : m < len) (x : Option β) : ltx m len x = x := by unfold ltx; simp [h]
theorem elt_ok {l : List α} {m : Nat} (h : m < l.length) (k : α → Option β) : elt l m k = k l[m] := by unfold elt; simp [h]
theorem stx_ok {l : List α} {m : Nat} (h : m < l.length) (f : α → α) (k : List α → Option β) : stx l m f k = k (l.set m (f l[m])) := by unfold stx; simp [h]
theorem app_ok {l m : List α} {bytes : Nat} (h : l.length + m.length ≤ 1000000000) (hb : bytes ≤ 100000) (k : List α → Option β) : app l m bytes k = k (l ++ m) := by
  unfold app
  have h2 := Nat.mul_le_mul h hb
  rw [if_pos ⟨by omega, by omega⟩]
theorem mak_ok {n : Nat} {bytes : Nat} (h : n ≤ 1000000000) (hb : bytes ≤ 100000) (z : α) (k : List α → Option β) : mak (n : Int) bytes z k = k (List.replicate n z) := by
  unfold mak
  have h2 := Nat.mul_le_mul hb h
  rw [if_pos ⟨by omega, by simp only [Int.toNat_natCast]; omega, by simp only [Int.toNat_natCast]; omega⟩]
  simp only [Int.toNat_natCast]
theorem sls_ok {l : List α} {a b : Nat} (h1 : a ≤ b) (h2 : b ≤ l.length) (k : List α → Option β) : sls l (a : Int) (b : Int) k = k ((l.take b).drop a) := by
  unfold sls
  rw [if_pos (by omega)]
  simp
theorem shx_ok {b : Int} (h : 0 ≤ b) (x : Option β) : shx b x = x := by unfold shx; simp [h]
theorem nzx_ok {b : Int} (h : b ≠ 0) (x : Option β) : nzx b x = x := by unfold nzx; simp [h]
theorem clone_ok {n : Nat} {l : List α} (h : l.length ≤ 1000000000) : (if l.length ≤ 1000000000 then some l else none) = some l := if_pos h
theorem wrapS (k : Nat) (h : k ≤ 1000000000000) : IntKind.wrap .i64 ((k : Int) + 1) = ((k + 1 : Nat) : Int) := by rw [wrap_in _ (by omega)]; omega
end
end Go.Proofs.Ytdbapaofibgfcaa
