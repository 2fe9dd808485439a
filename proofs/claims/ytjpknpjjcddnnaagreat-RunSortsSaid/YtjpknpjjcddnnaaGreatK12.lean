/- What some functions compute, over plain values. Printed by a program of mine (gen_fun.lean). slices.SortFunc at structs, in its place: a contract of the abstract walk out of the kit's. Contracts of the library, out of the shelf of the kit, at this program (written by the kit's lay-shelf and lay-plain). Layer 25: the orders of bindings, starts, matches, configurations, plainly; sorting by them. Lists without repetitions, ascending by an order: sorting and leaving out neighbours that are equal, and putting in one by one. Clones of slices, for elements of any kind. -/
import Derived.Test.YtjpknpjjcddnnaaGreatK11
import Derived.Test.YtjpknpjjcddnnaaGreatK08
import Derived.Shelf.SlSortCmp.NoneTotal
import Derived.Sort.OwnSorted
import Derived.Test.YtjpknpjjcddnnaaGreatProg
import Derived.Test.YtjpknpjjcddnnaaGreatK10
import Derived.Test.YtjpknpjjcddnnaaGreatK09
set_option linter.unusedVariables false
set_option linter.unusedSimpArgs false
set_option maxRecDepth 100000
set_option maxHeartbeats 8000000
namespace Go.Proofs.YtjpknpjjcddnnaaGreat
open Go.RowKit
def zsv (r : Bool) : AV := .bool (r)
theorem con_cmp_isNaN_d {n : Nat} {a0 : Int} {r : Bool} (hF : zff n a0 = some r) : Con E0d true 112 [aI (a0)] (zsv r) := by
 unfold zff at hF
 refine Con.walk _ Tryz.func112 rfl (z06 Tryz.func112 rfl rfl) rfl (Or.inr rfl) ?_
 repeat' first
  | (refine AW.step ?_; conv => whnf)
  | (refine z0b.o hF (fun hF => ?_) (fun hF => ?_))
  | (refine z0b.t ?_)
  | (refine z0b.f ?_)
  | (refine And.intro ⟨by kernel_rfl, by kernel_rfl⟩ ?_)
  | (refine EqX.mk (by first | rfl | kernel_rfl) ?_)
  | (exact RetX.o hF (by repeat' first | exact Sub.nil _ | exact Sub.refl _ | refine Sub.agg ?_ | refine Sub.tup ?_ | refine Sub.fn ?_ | exact SubL.nil | refine SubL.cons ?_ ?_ | refine Sub.sl _ ?_ | exact SubE.nil | refine SubE.cons ?_ ?_))
def zbd (r : Int) : AV := aI (r)
theorem zbt {n : Nat} {a0 : Int} {a1 : Int} {r : Int} (hF : z3v n a0 a1 = some r) : Con E0d true 81 [aI (a0), aI (a1)] (zbd r) := by
 unfold z3v at hF
 refine Con.walk _ Tryz.func81 rfl (z06 Tryz.func81 rfl rfl) rfl (Or.inr rfl) ?_
 repeat' first
  | (refine AW.step ?_; conv => whnf)
  | (refine z0b.o hF (fun hF => ?_) (fun hF => ?_))
  | (refine z0b.t ?_)
  | (refine z0b.f ?_)
  | (refine z0p.o hF zsv (fun a h => con_cmp_isNaN_d h) (fun a hF => ?_))
  | (refine And.intro ⟨by kernel_rfl, by kernel_rfl⟩ ?_)
  | (refine EqX.mk (by first | rfl | kernel_rfl) ?_)
  | (exact RetX.o hF (by repeat' first | exact Sub.nil _ | exact Sub.refl _ | refine Sub.agg ?_ | refine Sub.tup ?_ | refine Sub.fn ?_ | exact SubL.nil | refine SubL.cons ?_ ?_ | refine Sub.sl _ ?_ | exact SubE.nil | refine SubE.cons ?_ ?_))
def zic (a0 : (List Int)) (v1_0 : Int) : AS := ⟨[(3, aI (0)), (6, .sl 1 (List.map aI (a0))), (7, aI ((((List.map aI (a0)).length : Nat) : Int))), (8, aI (v1_0))], []⟩
theorem cmp_Or_d_l1_o {n N : Nat} {a0 : (List Int)} {k1_0_0 : Option (Int)} {R : Exit → AS → Prop} {K : List z16} {c : Code} {σ : AS} {v0 : Int} {r : Int} (hF : z95 n a0 k1_0_0 N v0 = some r) (hl : LeX E0d 18 σ (zic a0 v0)) (round : ∀ m v, z95 n a0 k1_0_0 (m + 1) v = some r → AW E0d 18 (z0v (fun σ' => ∃ v', z95 n a0 k1_0_0 m v' = some r ∧ LeX E0d 18 σ' (zic a0 v')) (AW E0d 18 R K)) [.code c] .normal (zic a0 v)) : z5v E0d 18 (fun next σ' => AW E0d 18 (z0v next (AW E0d 18 R K)) [.code c] .normal σ') σ :=
 LoopA.o (S := zic a0) hF (fun _ => rfl) hl round
def zm3 (r : Int) : AV := aI (r)
theorem zk8 {n : Nat} {a0 : (List Int)} {r : Int} (hF : zan n a0 = some r) : Con E0d true 79 [.sl 1 (List.map aI (a0))] (zm3 r) := by
 unfold zan at hF
 refine Con.walk _ Tryz.func79 rfl (z06 Tryz.func79 rfl rfl) rfl (Or.inr rfl) ?_
 repeat' first
  | (refine AW.step ?_; conv => whnf)
  | (refine z0b.o hF (fun hF => ?_) (fun hF => ?_))
  | (refine z0b.t ?_)
  | (refine z0b.f ?_)
  | (refine IdxX.o aI hF (fun x hF => ?_))
  | (exact ⟨_, hF, LeX.of [] rfl ⟨⟨rfl, rfl⟩, ⟨rfl, rfl⟩, ⟨rfl, rfl⟩, ⟨rfl, rfl⟩, trivial⟩ trivial⟩)
  | (refine cmp_Or_d_l1_o hF (LeX.of [] rfl ⟨⟨rfl, rfl⟩, ⟨rfl, rfl⟩, ⟨rfl, rfl⟩, ⟨rfl, rfl⟩, trivial⟩ trivial) (fun m v hF => ?_); unfold z95 at hF)
  | (refine And.intro ⟨by kernel_rfl, by kernel_rfl⟩ ?_)
  | (refine EqX.mk (by first | rfl | kernel_rfl) ?_)
  | (exact RetX.o hF (by repeat' first | exact Sub.nil _ | exact Sub.refl _ | refine Sub.agg ?_ | refine Sub.tup ?_ | refine Sub.fn ?_ | exact SubL.nil | refine SubL.cons ?_ ?_ | refine Sub.sl _ ?_ | exact SubE.nil | refine SubE.cons ?_ ?_))
def zr8 (r : Int) : AV := aI (r)
theorem con_match_refs_d {n : Nat} {a0 : z0q} {a1 : z0q} {r : Int} (hF : zdd n a0 a1 = some r) : Con E0d true 80 [.agg [aI (a0.fTime), aI (a0.fSource), aI (a0.fSeq)], .agg [aI (a1.fTime), aI (a1.fSource), aI (a1.fSeq)]] (zr8 r) := by
 unfold zdd at hF
 refine Con.walk _ Tryz.func80 rfl (z06 Tryz.func80 rfl rfl) rfl (Or.inr rfl) ?_
 repeat' first
  | (refine AW.step ?_; conv => whnf)
  | (refine z0b.o hF (fun hF => ?_) (fun hF => ?_))
  | (refine z0b.t ?_)
  | (refine z0b.f ?_)
  | (refine z0p.o hF zbd (fun a h => zbt h) (fun a hF => ?_))
  | (refine z0p.o hF zm3 (fun a h => zk8 h) (fun a hF => ?_))
  | (refine And.intro ⟨by kernel_rfl, by kernel_rfl⟩ ?_)
  | (refine EqX.mk (by first | rfl | kernel_rfl) ?_)
  | (exact RetX.o hF (by repeat' first | exact Sub.nil _ | exact Sub.refl _ | refine Sub.agg ?_ | refine Sub.tup ?_ | refine Sub.fn ?_ | exact SubL.nil | refine SubL.cons ?_ ?_ | refine Sub.sl _ ?_ | exact SubE.nil | refine SubE.cons ?_ ?_))
def zjb (r : Int) : AV := aI (r)
theorem zog {n : Nat} {a0 : z0g} {a1 : z0g} {r : Int} (hF : z82 n a0 a1 = some r) : Con E0d true 78 [.agg [aI (a0.fVar), aI (a0.fRef.fTime), aI (a0.fRef.fSource), aI (a0.fRef.fSeq)], .agg [aI (a1.fVar), aI (a1.fRef.fTime), aI (a1.fRef.fSource), aI (a1.fRef.fSeq)]] (zjb r) := by
 unfold z82 at hF
 refine Con.walk _ Tryz.func78 rfl (z06 Tryz.func78 rfl rfl) rfl (Or.inr rfl) ?_
 repeat' first
  | (refine AW.step ?_; conv => whnf)
  | (refine z0b.o hF (fun hF => ?_) (fun hF => ?_))
  | (refine z0b.t ?_)
  | (refine z0b.f ?_)
  | (refine z0p.o hF zr8 (fun a h => con_match_refs_d h) (fun a hF => ?_))
  | (refine z0p.o hF zbd (fun a h => zbt h) (fun a hF => ?_))
  | (refine z0p.o hF zm3 (fun a h => zk8 h) (fun a hF => ?_))
  | (refine And.intro ⟨by kernel_rfl, by kernel_rfl⟩ ?_)
  | (refine EqX.mk (by first | rfl | kernel_rfl) ?_)
  | (exact RetX.o hF (by repeat' first | exact Sub.nil _ | exact Sub.refl _ | refine Sub.agg ?_ | refine Sub.tup ?_ | refine Sub.fn ?_ | exact SubL.nil | refine SubL.cons ?_ ?_ | refine Sub.sl _ ?_ | exact SubE.nil | refine SubE.cons ?_ ?_))
def z61 (a1 : (List z0g)) (a0 : (List z0g)) (v1_0 : Int) : AS := ⟨[(0, .sl 4 (List.map z09 (a0))), (1, .sl 4 (List.map z09 (a1))), (2, .fn 78 []), (11, .sl 4 (List.map z09 (a0))), (12, aI ((((List.map z09 (a0)).length : Nat) : Int))), (13, aI (v1_0))], []⟩
theorem zko {n N : Nat} {a1 : (List z0g)} {a0 : (List z0g)} {k1_0_0 : Option (Int)} {R : Exit → AS → Prop} {K : List z16} {c : Code} {σ : AS} {v0 : Int} {r : Int} (hF : z27 n a1 a0 k1_0_0 N v0 = some r) (hl : LeX E0d 39 σ (z61 a1 a0 v0)) (round : ∀ m v, z27 n a1 a0 k1_0_0 (m + 1) v = some r → AW E0d 39 (z0v (fun σ' => ∃ v', z27 n a1 a0 k1_0_0 m v' = some r ∧ LeX E0d 39 σ' (z61 a1 a0 v')) (AW E0d 39 R K)) [.code c] .normal (z61 a1 a0 v)) : z5v E0d 39 (fun next σ' => AW E0d 39 (z0v next (AW E0d 39 R K)) [.code c] .normal σ') σ :=
 LoopA.o (S := z61 a1 a0) hF (fun _ => rfl) hl round
def zfy (r : Int) : AV := aI (r)
theorem zlq {n : Nat} {a0 : (List z0g)} {a1 : (List z0g)} {r : Int} (hF : z5s n a0 a1 = some r) : Con E0d true 77 [.sl 4 (List.map z09 (a0)), .sl 4 (List.map z09 (a1)), .fn 78 []] (zfy r) := by
 unfold z5s at hF
 refine Con.walk _ Tryz.func77 rfl (z06 Tryz.func77 rfl rfl) rfl (Or.inr rfl) ?_
 repeat' first
  | (refine AW.step ?_; conv => whnf)
  | (refine z0b.o hF (fun hF => ?_) (fun hF => ?_))
  | (refine z0b.t ?_)
  | (refine z0b.f ?_)
  | (refine IdxX.o z09 hF (fun x hF => ?_))
  | (refine z0p.o hF zjb (fun a h => zog h) (fun a hF => ?_))
  | (exact ⟨_, hF, LeX.of [] rfl ⟨⟨rfl, rfl⟩, ⟨rfl, rfl⟩, ⟨rfl, rfl⟩, ⟨rfl, rfl⟩, ⟨rfl, rfl⟩, ⟨rfl, rfl⟩, trivial⟩ trivial⟩)
  | (refine zko hF (LeX.of [] rfl ⟨⟨rfl, rfl⟩, ⟨rfl, rfl⟩, ⟨rfl, rfl⟩, ⟨rfl, rfl⟩, ⟨rfl, rfl⟩, ⟨rfl, rfl⟩, trivial⟩ trivial) (fun m v hF => ?_); unfold z27 at hF)
  | (refine And.intro ⟨by kernel_rfl, by kernel_rfl⟩ ?_)
  | (refine EqX.mk (by first | rfl | kernel_rfl) ?_)
  | (exact RetX.o hF (by repeat' first | exact Sub.nil _ | exact Sub.refl _ | refine Sub.agg ?_ | refine Sub.tup ?_ | refine Sub.fn ?_ | exact SubL.nil | refine SubL.cons ?_ ?_ | refine Sub.sl _ ?_ | exact SubE.nil | refine SubE.cons ?_ ?_))
def zm1 (r : Int) : AV := aI (r)
theorem ziw {n : Nat} {a0 : z03} {a1 : z03} {r : Int} (hF : z9q n a0 a1 = some r) : Con E0d true 43 [.agg [.sl 4 (List.map z09 (a0.fBindings))], .agg [.sl 4 (List.map z09 (a1.fBindings))]] (zm1 r) := by
 unfold z9q at hF
 refine Con.walk _ Tryz.func43 rfl (z06 Tryz.func43 rfl rfl) rfl (Or.inr rfl) ?_
 repeat' first
  | (refine AW.step ?_; conv => whnf)
  | (refine z0b.o hF (fun hF => ?_) (fun hF => ?_))
  | (refine z0b.t ?_)
  | (refine z0b.f ?_)
  | (refine z0p.o hF zfy (fun a h => zlq h) (fun a hF => ?_))
  | (refine And.intro ⟨by kernel_rfl, by kernel_rfl⟩ ?_)
  | (refine EqX.mk (by first | rfl | kernel_rfl) ?_)
  | (exact RetX.o hF (by repeat' first | exact Sub.nil _ | exact Sub.refl _ | refine Sub.agg ?_ | refine Sub.tup ?_ | refine Sub.fn ?_ | exact SubL.nil | refine SubL.cons ?_ ?_ | refine Sub.sl _ ?_ | exact SubE.nil | refine SubE.cons ?_ ?_))
def zm0 (r : Int) : AV := aI (r)
theorem zrk {n : Nat} {a0 : z04} {a1 : z04} {r : Int} (hF : z9p n a0 a1 = some r) : Con E0d true 90 [.agg [aI (a0.fScope), aI (a0.fTime)], .agg [aI (a1.fScope), aI (a1.fTime)]] (zm0 r) := by
 unfold z9p at hF
 refine Con.walk _ Tryz.func90 rfl (z06 Tryz.func90 rfl rfl) rfl (Or.inr rfl) ?_
 repeat' first
  | (refine AW.step ?_; conv => whnf)
  | (refine z0b.o hF (fun hF => ?_) (fun hF => ?_))
  | (refine z0b.t ?_)
  | (refine z0b.f ?_)
  | (refine z0p.o hF zbd (fun a h => zbt h) (fun a hF => ?_))
  | (refine z0p.o hF zm3 (fun a h => zk8 h) (fun a hF => ?_))
  | (refine And.intro ⟨by kernel_rfl, by kernel_rfl⟩ ?_)
  | (refine EqX.mk (by first | rfl | kernel_rfl) ?_)
  | (exact RetX.o hF (by repeat' first | exact Sub.nil _ | exact Sub.refl _ | refine Sub.agg ?_ | refine Sub.tup ?_ | refine Sub.fn ?_ | exact SubL.nil | refine SubL.cons ?_ ?_ | refine Sub.sl _ ?_ | exact SubE.nil | refine SubE.cons ?_ ?_))
def z4q (a1 : (List z04)) (a0 : (List z04)) (v1_0 : Int) : AS := ⟨[(0, .sl 2 (List.map z07 (a0))), (1, .sl 2 (List.map z07 (a1))), (2, .fn 90 []), (11, .sl 2 (List.map z07 (a0))), (12, aI ((((List.map z07 (a0)).length : Nat) : Int))), (13, aI (v1_0))], []⟩
theorem zi4 {n N : Nat} {a1 : (List z04)} {a0 : (List z04)} {k1_0_0 : Option (Int)} {R : Exit → AS → Prop} {K : List z16} {c : Code} {σ : AS} {v0 : Int} {r : Int} (hF : z1e n a1 a0 k1_0_0 N v0 = some r) (hl : LeX E0d 39 σ (z4q a1 a0 v0)) (round : ∀ m v, z1e n a1 a0 k1_0_0 (m + 1) v = some r → AW E0d 39 (z0v (fun σ' => ∃ v', z1e n a1 a0 k1_0_0 m v' = some r ∧ LeX E0d 39 σ' (z4q a1 a0 v')) (AW E0d 39 R K)) [.code c] .normal (z4q a1 a0 v)) : z5v E0d 39 (fun next σ' => AW E0d 39 (z0v next (AW E0d 39 R K)) [.code c] .normal σ') σ :=
 LoopA.o (S := z4q a1 a0) hF (fun _ => rfl) hl round
def zd3 (r : Int) : AV := aI (r)
theorem zit {n : Nat} {a0 : (List z04)} {a1 : (List z04)} {r : Int} (hF : z4e n a0 a1 = some r) : Con E0d true 89 [.sl 2 (List.map z07 (a0)), .sl 2 (List.map z07 (a1)), .fn 90 []] (zd3 r) := by
 unfold z4e at hF
 refine Con.walk _ Tryz.func89 rfl (z06 Tryz.func89 rfl rfl) rfl (Or.inr rfl) ?_
 repeat' first
  | (refine AW.step ?_; conv => whnf)
  | (refine z0b.o hF (fun hF => ?_) (fun hF => ?_))
  | (refine z0b.t ?_)
  | (refine z0b.f ?_)
  | (refine IdxX.o z07 hF (fun x hF => ?_))
  | (refine z0p.o hF zm0 (fun a h => zrk h) (fun a hF => ?_))
  | (exact ⟨_, hF, LeX.of [] rfl ⟨⟨rfl, rfl⟩, ⟨rfl, rfl⟩, ⟨rfl, rfl⟩, ⟨rfl, rfl⟩, ⟨rfl, rfl⟩, ⟨rfl, rfl⟩, trivial⟩ trivial⟩)
  | (refine zi4 hF (LeX.of [] rfl ⟨⟨rfl, rfl⟩, ⟨rfl, rfl⟩, ⟨rfl, rfl⟩, ⟨rfl, rfl⟩, ⟨rfl, rfl⟩, ⟨rfl, rfl⟩, trivial⟩ trivial) (fun m v hF => ?_); unfold z1e at hF)
  | (refine And.intro ⟨by kernel_rfl, by kernel_rfl⟩ ?_)
  | (refine EqX.mk (by first | rfl | kernel_rfl) ?_)
  | (exact RetX.o hF (by repeat' first | exact Sub.nil _ | exact Sub.refl _ | refine Sub.agg ?_ | refine Sub.tup ?_ | refine Sub.fn ?_ | exact SubL.nil | refine SubL.cons ?_ ?_ | refine Sub.sl _ ?_ | exact SubE.nil | refine SubE.cons ?_ ?_))
def R_run_compare_d (r : Int) : AV := aI (r)
theorem con_run_compare_d {n : Nat} {a0 : z00} {a1 : z00} {r : Int} (hF : zfd n a0 a1 = some r) : Con E0d true 59 [.agg [aI (a0.fState), .sl 4 (List.map z09 (a0.fBindings)), .sl 2 (List.map z07 (a0.fStarts))], .agg [aI (a1.fState), .sl 4 (List.map z09 (a1.fBindings)), .sl 2 (List.map z07 (a1.fStarts))]] (R_run_compare_d r) := by
 unfold zfd at hF
 refine Con.walk _ Tryz.func59 rfl (z06 Tryz.func59 rfl rfl) rfl (Or.inr rfl) ?_
 repeat' first
  | (refine AW.step ?_; conv => whnf)
  | (refine z0b.o hF (fun hF => ?_) (fun hF => ?_))
  | (refine z0b.t ?_)
  | (refine z0b.f ?_)
  | (refine z0p.o hF zbd (fun a h => zbt h) (fun a hF => ?_))
  | (refine z0p.o hF zm1 (fun a h => ziw h) (fun a hF => ?_))
  | (refine z0p.o hF zd3 (fun a h => zit h) (fun a hF => ?_))
  | (refine z0p.o hF zm3 (fun a h => zk8 h) (fun a hF => ?_))
  | (refine And.intro ⟨by kernel_rfl, by kernel_rfl⟩ ?_)
  | (refine EqX.mk (by first | rfl | kernel_rfl) ?_)
  | (exact RetX.o hF (by repeat' first | exact Sub.nil _ | exact Sub.refl _ | refine Sub.agg ?_ | refine Sub.tup ?_ | refine Sub.fn ?_ | exact SubL.nil | refine SubL.cons ?_ ?_ | refine Sub.sl _ ?_ | exact SubE.nil | refine SubE.cons ?_ ?_))
end Go.Proofs.YtjpknpjjcddnnaaGreat
namespace Go.Proofs.YtjpknpjjcddnnaaGreat
open Go.RowKit
open Go.Sort (SWO PermIn SortedIn HoldsK flatK putRowK putRow putCells grow mapBlock onCells size_flatK get_flatK heap_grow_old)
section
variable {T : Type}
def insF (cmp : T → T → Int) (x : T) : List T → List T
 | [] => [x]
 | y :: l => match ltOf cmp y x with
   | true => y :: insF cmp x l
   | false => x :: y :: l
def sortF (cmp : T → T → Int) : List T → List T
 | [] => []
 | x :: l => insF cmp x (sortF cmp l)
def F_sort [DecidableEq T] (cmp : T → T → Int) (n : Nat) (l : List T) : Option (List T) :=
 if l.length ≤ 1000000000 ∧ ∀ x ∈ l, ∀ y ∈ l, ltOf cmp x y = false → ltOf cmp y x = false → x = y then some (sortF cmp l) else none
theorem insF_perm (cmp : T → T → Int) (x : T) : ∀ l : List T, (insF cmp x l).Perm (x :: l)
 | [] => .refl _
 | y :: l => by
   unfold insF
   cases ltOf cmp y x with
   | true => exact ((insF_perm cmp x l).cons y).trans (.swap x y l)
   | false => exact .refl _
theorem zij (cmp : T → T → Int) : ∀ l : List T, (sortF cmp l).Perm l
 | [] => .refl _
 | x :: l => (insF_perm cmp x _).trans ((zij cmp l).cons x)
theorem insF_sorted {cmp : T → T → Int} (hO : SWO (ltOf cmp)) (x : T) : ∀ l : List T, l.Pairwise (fun x y => ltOf cmp y x = false) → (insF cmp x l).Pairwise (fun x y => ltOf cmp y x = false)
 | [], _ => by simp [insF]
 | y :: l, h => by
   obtain ⟨h1, h2⟩ := List.pairwise_cons.1 h
   unfold insF
   cases hb : ltOf cmp y x with
   | true =>
     refine List.pairwise_cons.2 ⟨fun z hz => ?_, insF_sorted hO x l h2⟩
     rcases List.mem_cons.1 ((insF_perm cmp x l).mem_iff.1 hz) with hz | hz
     ·subst hz
      cases h3 : ltOf cmp z y with
      | false => rfl
      | true => have := hO.trans _ _ _ hb h3; rw [hO.irrefl] at this; cases this
     ·exact h1 z hz
   | false =>
     refine List.pairwise_cons.2 ⟨fun z hz => ?_, h⟩
     rcases List.mem_cons.1 hz with hz | hz
     ·subst hz; exact hb
     ·exact hO.ntrans _ _ _ (h1 z hz) hb
theorem znz {cmp : T → T → Int} (hO : SWO (ltOf cmp)) : ∀ l : List T, (sortF cmp l).Pairwise (fun x y => ltOf cmp y x = false)
 | [] => .nil
 | x :: l => insF_sorted hO x _ (znz hO l)
theorem sort_uniq {cmp : T → T → Int} (hO : SWO (ltOf cmp)) {l l' : List T} (ht : ∀ x ∈ l, ∀ y ∈ l, ltOf cmp x y = false → ltOf cmp y x = false → x = y) (hp : l'.Perm l) (hs : l'.Pairwise (fun x y => ltOf cmp y x = false)) : l' = sortF cmp l :=
 List.Perm.eq_of_pairwise (le := fun x y => ltOf cmp y x = false) (fun a b ha hb h1 h2 => ht a (hp.mem_iff.1 ha) b ((zij cmp l).mem_iff.1 hb) h2 h1) hs (znz hO l) (hp.trans (zij cmp l).symm)
end
theorem grow_of_below {w w' : World} (h : Below w.heap.size w w') (hd : w.drawn ≤ w'.drawn) : ∃ q os, w' = grow (w.drewN q) os := by
 refine ⟨w'.drawn - w.drawn, w'.heap.extract w.heap.size w'.heap.size, ?_⟩
 obtain ⟨heap', tape', drawn', os', output'⟩ := w'
 have e1 : os' = w.os := h.os
 have e2 : tape' = w.tape := h.tape
 have e3 : output' = w.output := h.output
 have hs : w.heap.size ≤ heap'.size := h.size
 have hb : ∀ k, k < w.heap.size → heap'[k]? = w.heap[k]? := h.block
 have hd : w.drawn ≤ drawn' := hd
 subst e1 e2 e3
 have eh : heap' = w.heap ++ heap'.extract w.heap.size heap'.size := by
  apply Array.ext_getElem?
  intro k
  by_cases hk : k < w.heap.size
  ·rw [Array.getElem?_append_left hk]; exact hb k hk
  ·rw [Array.getElem?_append_right (by omega), Array.getElem?_extract]
   by_cases hk2 : k < heap'.size
   ·rw [if_pos (by omega)]; congr 1; omega
   ·rw [if_neg (by omega), Array.getElem?_eq_none (by omega)]
 have ed : drawn' = w.drawn + (drawn' - w.drawn) := by omega
 simp only [grow, World.drewN]
 congr 1
theorem take_put (F cur : Array Value) (h : F.size ≤ cur.size) : (putCells id 0 F cur).toList.take F.size = F.toList := by
 apply List.ext_getElem?
 intro j
 by_cases hj : j < F.size
 ·rw [List.getElem?_take_of_lt hj, Array.getElem?_toList]
  simp [putCells, hj, show j < cur.size by omega]
 ·rw [List.getElem?_take_eq_none (by omega), List.getElem?_eq_none (by simp; omega)]
abbrev SEl (w : World) (S : Nat → Prop) (sz : Nat) {T : Type} (encT : T → AV) : Type := { p : List Value × T // p.1.length = sz ∧ (∀ v ∈ p.1, v.oneCell' = true) ∧ Rep w S G0 (encT p.2) (.agg p.1.toArray) }
theorem flat_get {α : Type} [Inhabited α] (enc : α → List Value) (sz : Nat) (hk : ∀ x, (enc x).length = sz) (d : Array α) (k j : Nat) (hkd : k < d.size) (hj : j < sz) : (flatK enc sz d).toList.getD (k * sz + j) undef = (enc d[k]!).getD j undef := by
 have hlt : k * sz + j < d.size * sz := by
  have : (k + 1) * sz ≤ d.size * sz := Nat.mul_le_mul_right _ hkd
  rw [Nat.succ_mul] at this
  omega
 have h1 := get_flatK enc sz d (k * sz + j) hlt
 have e1 : (k * sz + j) / sz = k := by rw [Nat.mul_comm, Nat.mul_add_div (by omega), Nat.div_eq_of_lt hj, Nat.add_zero]
 have e2 : (k * sz + j) % sz = j := by rw [Nat.mul_comm, Nat.mul_add_mod, Nat.mod_eq_of_lt hj]
 rw [e1, e2] at h1
 have h2 : k * sz + j < (flatK enc sz d).size := by rw [size_flatK]; exact hlt
 rw [List.getD_eq_getElem?_getD, Array.getElem?_toList, Array.getElem?_eq_getElem h2, Option.getD_some, ← getElem!_pos (flatK enc sz d) _ h2, h1]
 have h3 : j < (enc d[k]!).length := by rw [hk]; exact hj
 rw [getElem!_pos (enc d[k]!) j h3, List.getD_eq_getElem?_getD, List.getElem?_eq_getElem h3, Option.getD_some]
theorem sort_gen {E Ed : Env} {f g ty sz : Nat} {T : Type} [DecidableEq T] {encT : T → AV} {cmp : T → T → Int} {n : Nat} {l l' : List T} (hP : Ed.P = E.P) (hEd : Ed.dr = true) (he : z9y E f) (heg : z9y E g) (hsz : 0 < sz)
  (hagg : ∀ x, ∃ cs, encT x = .agg cs ∧ cs.length = sz)
  (hsort : ∀ (α : Type) [Inhabited α] (enc : α → List Value) (hk : ∀ x, (enc x).length = sz) (h1 : ∀ x, ∀ v ∈ enc x, v.oneCell' = true) (cf : α → α → Int) (hO : SWO (ltOf cf)) (blk off cap : Nat) (d : Array α) (w : World)
    (hcmp : CmpLays E.P g #[] enc sz cf blk off d.size w) (hH : HoldsK enc sz w blk off d) (hblk : blk < w.heap.size) (hsz : d.size < 4611686018427387904),
    Calls E.P f #[.slice (some ⟨blk, off, none⟩) d.size cap, .func (.func g) #[] #[]] w fun e w' => e = .returned (.tuple #[]) ∧ ∃ d' n os, PermIn 0 d.size d d' ∧ SortedIn (ltOf cf) 0 d.size d' ∧ w' = sortWorldK enc sz w blk off n d' os)
  (hnone : ∀ (p : Option Addr) (cap : Nat) (fv : Value) (w : World), Calls E.P f #[.slice p 0 cap, fv] w fun e w' => e = .returned (.tuple #[]) ∧ w' = w)
  (hc : ∀ x y, Con Ed true g [encT x, encT y] (.int .i64 (cmp x y))) (hO : SWO (ltOf cmp)) (hF : F_sort cmp n l = some l') :
  ConC true E f [.row 0, .fn g []] ty sz (l.map encT) ty sz (l'.map encT) (.tup []) := by
 unfold F_sort at hF
 split at hF
 rotate_left
 ·cases hF
 rename_i hcond
 obtain ⟨hll, hties⟩ := hcond
 injection hF with hF
 refine ⟨he, rfl, fun S w0 w vs v us hbw hown hlen hre hone hnS hvs hargs => ?_⟩
 -- the arguments
 have ha := hargs (fun i => if i = 0 then some (some (v.ownBlock, v)) else none) rfl
 have h0 := (ha 0 (by simp)).row_inv (g := v.ownBlock) (s := v) rfl (zll (z5p hown))
 obtain ⟨cs, h1, hcs, _⟩ := (ha 1 (by simp)).fn_inv
 have hcs0 : cs = #[] := Array.eq_empty_of_size_eq_zero hcs
 subst hcs0
 have evs : vs = #[v, .func (.func g) #[] #[]] := by
  have := getD2 hvs
  rw [h0, h1] at this
  exact this
 rw [evs]
 clear ha h0 h1 evs
 have hlm : (l.map encT).length = l.length := List.length_map _
 have hl'len : l'.length = l.length := by rw [← hF]; exact (zij cmp l).length_eq
 -- no element
 have empty : l = [] → Calls E.P f #[v, .func (.func g) #[] #[]] w fun e w' => ∃ u v' us', e = .returned u ∧ w.grownBy w' v.ownBlock ∧ w'.ownsRow w0.heap.size ty sz v' (l'.map encT).length us' ∧ (true = true → v' = v) ∧ (∀ b, v'.ownBlock = some b → v.ownBlock = some b ∨ w.heap.size ≤ b) ∧ (∀ k (hk : k < (l'.map encT).length), ((l'.map encT)[k]).cells.length = sz) ∧
   (∀ k (hk : k < (l'.map encT).length) j (hj : j < ((l'.map encT)[k]).cells.length), Rep w' (fun b => (S b ∨ w.heap.size ≤ b) ∧ v'.ownBlock ≠ some b) G0 (((l'.map encT)[k]).cells[j]) (us'.getD (k * sz + j) undef)) ∧ (∀ u ∈ us', u.oneCell' = true) ∧
   ∀ γ' : Gam, γ' 0 = some (some (v'.ownBlock, v')) → Rep w' (fun b => (S b ∨ w.heap.size ≤ b) ∧ v'.ownBlock ≠ some b) γ' (.tup []) u := fun h0 => by
  have hl0 : l' = [] := by rw [← hF, h0]; simp [sortF]
  subst hl0
  subst h0
  have hv : ∃ p cap, v = .slice p 0 cap := by
   rcases hown.2 with ⟨hv, _⟩ | ⟨b, cap, cur, hv, _⟩
   ·exact ⟨none, 0, hv⟩
   ·exact ⟨_, cap, hv⟩
  obtain ⟨p, cap, hv⟩ := hv
  have hcall := hnone p cap (.func (.func g) #[] #[]) w
  rw [← hv] at hcall
  refine hcall.mono ?_
  rintro e w' ⟨rfl, rfl⟩
  exact ⟨_, v, us, rfl, World.grownBy.refl _ _, hown, fun _ => rfl, fun b hb => Or.inl hb, fun k hk => absurd hk (by simp), fun k hk => absurd hk (by simp), hone, fun γ' _ => .tup #[] rfl (fun i hi => absurd hi (by simp))⟩
 by_cases hl0 : l = []
 ·exact empty hl0
 have hlp : 0 < l.length := List.length_pos_iff.2 hl0
 rcases hown.2 with ⟨_, h0⟩ | ⟨blk, cap, cur, hv, hbb, hh, hn, hm, hs, ht⟩
 ·omega
 have hblk : blk < w.heap.size := (Array.getElem?_eq_some_iff.1 hh).1
 have hob : v.ownBlock = some blk := by rw [hv]; rfl
 have husl : us.length = l.length * sz := by rw [hown.1, hlm]
 have hin : ∀ k j, k < l.length → j < sz → k * sz + j < l.length * sz := fun k j hk hj => by
  have : (k + 1) * sz ≤ l.length * sz := Nat.mul_le_mul_right _ hk
  rw [Nat.succ_mul] at this
  omega
 -- the elements
 have hel : ∀ i (hi : i < l.length), ((us.drop (i * sz)).take sz).length = sz ∧ (∀ v ∈ (us.drop (i * sz)).take sz, v.oneCell' = true) ∧ Rep w S G0 (encT l[i]) (.agg ((us.drop (i * sz)).take sz).toArray) := fun i hi => by
  have hlen1 : ((us.drop (i * sz)).take sz).length = sz := by
   rw [List.length_take, List.length_drop]
   have : (i + 1) * sz ≤ l.length * sz := Nat.mul_le_mul_right _ hi
   rw [Nat.succ_mul] at this
   omega
  have hone1 : ∀ v ∈ (us.drop (i * sz)).take sz, v.oneCell' = true := fun v hv => hone v (List.mem_of_mem_drop (List.mem_of_mem_take hv))
  refine ⟨hlen1, hone1, ?_⟩
  obtain ⟨cs, hcs, hcl⟩ := hagg l[i]
  rw [hcs]
  have hget : ∀ j, j < sz → ((us.drop (i * sz)).take sz).toArray.getD j undef = us.getD (i * sz + j) undef := fun j hj => by
   rw [Array.getD_eq_getD_getElem?, List.getElem?_toArray, List.getElem?_take_of_lt hj, List.getElem?_drop, List.getD_eq_getElem?_getD]
  refine .agg _ (by simpa [hcl] using hlen1) (fun j hj => ?_) (fun j hj => ?_)
  ·rw [hget j (by omega)]
   have hil : i < (l.map encT).length := by rw [hlm]; exact hi
   have e : (l.map encT)[i] = .agg cs := by rw [List.getElem_map]; exact hcs
   have := hre i hil j (by rw [e]; exact hj)
   simp only [e, AV.cells] at this
   exact this
  ·have hj' : j < ((us.drop (i * sz)).take sz).length := by simpa using hj
   rw [Array.getD_eq_getD_getElem?, List.getElem?_toArray, List.getElem?_eq_getElem hj', Option.getD_some]
   exact hone1 _ (List.getElem_mem hj')
 let A := SEl w S sz encT
 let enc : A → List Value := fun p => p.1.1
 let d : Array A := (List.ofFn fun i : Fin l.length => (⟨((us.drop (i.1 * sz)).take sz, l[i.1]), hel i.1 i.2⟩ : A)).toArray
 haveI : Inhabited A := ⟨⟨((us.drop (0 * sz)).take sz, l[0]), hel 0 hlp⟩⟩
 have hds : d.size = l.length := by simp [d]
 have hdi : ∀ i (hi : i < l.length), d[i]! = ⟨((us.drop (i * sz)).take sz, l[i]), hel i hi⟩ := fun i hi => by
  rw [getElem!_pos d i (by rw [hds]; exact hi)]
  simp [d]
 have hk : ∀ x : A, (enc x).length = sz := fun x => x.2.1
 have hcmp : CmpLays E.P g #[] enc sz (fun x y : A => cmp x.1.2 y.1.2) blk 0 d.size w := fun m os dk hdk x y => by
  have hcon := (hc x.1.2 y.1.2).2 S (sortWorldK enc sz w blk 0 m dk os) #[.agg (enc x).toArray, .agg (enc y).toArray] ⟨rfl, fun i hi => ?_⟩
  ·rw [hP] at hcon
   refine hcon.mono ?_
   rintro e w' ⟨u, rfl, ⟨hb, hdr⟩, hu⟩
   exact ⟨by rw [hu.int_inv], grow_of_below hb (hdr hEd)⟩
  ·have key : ∀ z : A, Rep (sortWorldK enc sz w blk 0 m dk os) S G0 (encT z.1.2) (.agg (enc z).toArray) := fun z => by
    refine z.2.2.2.mono ?_ (fun b hS hb => ⟨?_, hS⟩)
    ·simp [sortWorldK, grow, putRowK, putRow, mapBlock, Go.Sort.ahead]
    ·have hne : blk ≠ b := fun e => hnS blk hob (e ▸ hS)
     unfold sortWorldK
     rw [heap_grow_old _ _ (by simpa [putRowK, Go.Sort.ahead] using hb)]
     simp [putRowK, putRow, mapBlock, Go.Sort.ahead, Array.getElem?_modify, hne]
   have hi' : i < 2 := hi
   rcases i with _ | _ | i
   ·exact key x
   ·exact key y
   ·omega
 have hH : HoldsK enc sz w blk 0 d := fun j hj => by
  have hj' : j < l.length * sz := by rw [size_flatK, hds] at hj; exact hj
  have hq : j / sz < l.length := Nat.div_lt_of_lt_mul (by rwa [Nat.mul_comm] at hj')
  have hm := Nat.mod_lt j hsz
  have e := flat_get enc sz hk d (j / sz) (j % sz) (by rw [hds]; exact hq) hm
  have ej : j / sz * sz + j % sz = j := by rw [Nat.mul_comm]; exact Nat.div_add_mod j sz
  rw [ej] at e
  have ef : (flatK enc sz d)[j]! = us.getD j undef := by
   rw [getElem!_pos (flatK enc sz d) j hj]
   have h1 : (flatK enc sz d).toList.getD j undef = (flatK enc sz d)[j] := by
    rw [List.getD_eq_getElem?_getD, Array.getElem?_toList, Array.getElem?_eq_getElem hj]; rfl
   rw [← h1, e, hdi _ hq]
   show ((us.drop (j / sz * sz)).take sz).getD (j % sz) undef = us.getD j undef
   rw [List.getD_eq_getElem?_getD, List.getElem?_take_of_lt hm, List.getElem?_drop, ej, ← List.getD_eq_getElem?_getD]
  rw [ef, Nat.zero_add]
  refine ⟨zlj hown hob j (by rw [hlm]; exact hj'), ?_⟩
  simp [World.frozen?, hh]
 have hOA : SWO (ltOf fun x y : A => cmp x.1.2 y.1.2) := ⟨fun x => hO.irrefl _, fun x y z => hO.trans _ _ _, fun x y z => hO.ntrans _ _ _⟩
 have hcall := hsort A enc hk (fun x => x.2.2.1) (fun x y => cmp x.1.2 y.1.2) hOA blk 0 cap d w hcmp hH hblk (by rw [hds]; omega)
 have ev : v = .slice (some ⟨blk, 0, none⟩) d.size cap := by rw [hv, hlm, hds]
 rw [← ev] at hcall
 refine hcall.mono ?_
 rintro e w' ⟨rfl, d', m, os, ⟨hps, _, hpp⟩, hso, hw'⟩
 have hd's : d'.size = l.length := hps.trans hds
 -- what lies there now
 have e1 : d'.extract 0 d.size = d' := by rw [← hps]; exact Array.extract_size
 rw [e1, Array.extract_size] at hpp
 have hdl : d.toList.map (fun p => p.1.2) = l := by
  simp only [d, List.map_ofFn]
  apply List.ext_getElem
  ·simp
  ·intro i h1 h2; simp
 have hperm : (d'.toList.map (fun p => p.1.2)).Perm l := by
  have := hpp.map (fun p : A => p.1.2)
  rwa [hdl] at this
 have hsorted : (d'.toList.map (fun p => p.1.2)).Pairwise (fun x y => ltOf cmp y x = false) := by
  rw [List.pairwise_iff_getElem]
  intro i j hi hj hij
  have hi' : i < d'.size := by simpa using hi
  have hj' : j < d'.size := by simpa using hj
  have := hso i j (Nat.zero_le _) hij (by rw [hds, ← hd's]; exact hj')
  rw [getElem!_pos d' i hi', getElem!_pos d' j hj'] at this
  simpa [ltOf] using this
 have hfin : d'.toList.map (fun p => p.1.2) = l' := by rw [← hF]; exact sort_uniq hO hties hperm hsorted
 have hl'k : ∀ k (hk' : k < l'.length), ∃ h : k < d'.size, l'[k] = d'[k].1.2 := fun k hk' => by
  have h : k < d'.size := by omega
  refine ⟨h, ?_⟩
  have : l'[k] = (d'.toList.map (fun p => p.1.2))[k]'(by simpa using h) := by simp only [hfin]
  rw [this]
  simp
 have hgb : w.grownBy w' v.ownBlock := by
  rw [hob, hw']
  refine ⟨rfl, rfl, rfl, by simp [sortWorldK, grow, putRowK, putRow, mapBlock, Go.Sort.ahead], fun k hk hne => ?_⟩
  unfold sortWorldK
  rw [heap_grow_old _ _ (by simpa [putRowK, Go.Sort.ahead] using hk)]
  have : blk ≠ k := fun e => hne (by rw [e])
  simp [putRowK, putRow, mapBlock, Go.Sort.ahead, Array.getElem?_modify, this]
 have hFs : (flatK enc sz d').size = l.length * sz := by rw [size_flatK, hd's]
 have hcap : l.length * sz ≤ cur.size := by
  rw [hs]; rw [hlm] at hn; exact Nat.mul_le_mul_right _ hn
 have hheap : w'.heap[blk]? = some (.cells (putCells id 0 (flatK enc sz d') cur) ty (0, 0)) := by
  rw [hw']
  unfold sortWorldK
  rw [heap_grow_old _ _ (by simpa [putRowK, Go.Sort.ahead] using hblk)]
  simp [putRowK, putRow, mapBlock, Go.Sort.ahead, Array.getElem?_modify, hh, onCells]
 have hrow : ∀ k j, k < l.length → j < sz → (flatK enc sz d').toList.getD (k * sz + j) undef = (enc d'[k]!).getD j undef := fun k j hk' hj => flat_get enc sz hk d' k j (by rw [hd's]; exact hk') hj
 refine ⟨_, v, (flatK enc sz d').toList, rfl, hgb, ⟨by rw [Array.length_toList, hFs, List.length_map, hl'len], Or.inr ⟨blk, cap, _, ?_, hbb, hheap, ?_, hm, ?_, ?_⟩⟩, fun _ => rfl, fun b hb => Or.inl hb, fun k hk' => ?_, fun k hk' j hj => ?_, fun u hu => ?_, fun γ' _ => .tup #[] rfl (fun i hi => absurd hi (by simp))⟩
 ·rw [List.length_map, hl'len, hv, hlm]
 ·rw [List.length_map, hl'len]; rw [hlm] at hn; exact hn
 ·simp [putCells, hs]
 ·rw [List.length_map, hl'len, ← hFs]
  exact take_put _ _ (by rw [hFs]; exact hcap)
 ·rw [List.getElem_map]
  obtain ⟨cs, hcs, hcl⟩ := hagg (l'[k]'(by simpa using hk'))
  rw [hcs]; exact hcl
 ·have hk2 : k < l'.length := by simpa using hk'
  obtain ⟨hkd, hlk⟩ := hl'k k hk2
  have e : (l'.map encT)[k] = encT d'[k].1.2 := by rw [List.getElem_map, hlk]
  simp only [e] at hj ⊢
  obtain ⟨cs, hcs, hcl⟩ := hagg d'[k].1.2
  have hj2 : j < sz := by rw [hcs] at hj; simp only [AV.cells] at hj; omega
  rw [hrow k j (by omega) hj2, getElem!_pos d' k hkd]
  have hrep := d'[k].2.2.2
  rw [hcs] at hrep
  obtain ⟨vs', hvs', hvl, hvr, _⟩ := hrep.agg_inv
  injection hvs' with hvs'
  subst hvs'
  have := hvr j (by omega)
  simp only [hcs, AV.cells]
  rw [Array.getD_eq_getD_getElem?, List.getElem?_toArray, ← List.getD_eq_getElem?_getD] at this
  refine this.mono hgb.size (fun b hS hb => ⟨hgb.block b hb (fun e => hnS b e.symm hS), Or.inl hS, fun e => hnS b e hS⟩)
 ·obtain ⟨q, hq, rfl⟩ := List.mem_iff_getElem.1 hu
  have hq' : q < l.length * sz := by rw [Array.length_toList, hFs] at hq; exact hq
  have hqd : q / sz < l.length := Nat.div_lt_of_lt_mul (by rwa [Nat.mul_comm] at hq')
  have hm := Nat.mod_lt q hsz
  have := hrow (q / sz) (q % sz) hqd hm
  have ej : q / sz * sz + q % sz = q := by rw [Nat.mul_comm]; exact Nat.div_add_mod q sz
  rw [ej, List.getD_eq_getElem?_getD, List.getElem?_eq_getElem hq, Option.getD_some] at this
  rw [this]
  have hl2 := hk d'[q / sz]!
  rw [List.getD_eq_getElem?_getD, List.getElem?_eq_getElem (by omega), Option.getD_some]
  exact (d'[q / sz]!).2.2.1 _ (List.getElem_mem _)
end Go.Proofs.YtjpknpjjcddnnaaGreat
namespace Go.Proofs
open Go.Shelf
def Tryz.laysSlF06_f86_ren : Go.Shelf.Ren := ⟨fun | 6 => 86 | 15 => 111 | 14 => 116 | 28 => 149 | 29 => 150 | 20 => 152 | 21 => 153 | 22 => 154 | 23 => 155 | 24 => 156 | 25 => 157 | 26 => 158 | 27 => 159 | 46 => 190 | 47 => 182 | 48 => 183 | 49 => 191 | 50 => 192 | 57 => 204 | n => n, fun | 22 => 29 | 24 => 77 | 25 => 79 | 3 => 3 | 39 => 174 | 0 => 0 | 53 => 209 | 55 => 211 | 4 => 4 | 46 => 202 | 45 => 201 | 50 => 206 | 5 => 5 | 9 => 9 | 66 => 233 | 70 => 237 | 76 => 257 | 77 => 222 | n => n, fun | n => n⟩
theorem Tryz.laysSlF06_f86 : Go.Proofs.SlLaysF0.n6 Tryz.prog Tryz.laysSlF06_f86_ren := {
 mixed := by kernel_rfl
 f6 := ⟨Tryz.f86.name, by decide, Tryz.func86.trans (congrArg some (by kernel_rfl))⟩
 f14 := ⟨Tryz.f116.name, by decide, Tryz.func116.trans (congrArg some (by kernel_rfl))⟩
 f15 := Tryz.func111.trans (congrArg some (by kernel_rfl))
 f20 := ⟨Tryz.f152.name, by decide, Tryz.func152.trans (congrArg some (by kernel_rfl))⟩
 f21 := ⟨Tryz.f153.name, by decide, Tryz.func153.trans (congrArg some (by kernel_rfl))⟩
 f22 := ⟨Tryz.f154.name, by decide, Tryz.func154.trans (congrArg some (by kernel_rfl))⟩
 f23 := ⟨Tryz.f155.name, by decide, Tryz.func155.trans (congrArg some (by kernel_rfl))⟩
 f24 := ⟨Tryz.f156.name, by decide, Tryz.func156.trans (congrArg some (by kernel_rfl))⟩
 f25 := ⟨Tryz.f157.name, by decide, Tryz.func157.trans (congrArg some (by kernel_rfl))⟩
 f26 := ⟨Tryz.f158.name, by decide, Tryz.func158.trans (congrArg some (by kernel_rfl))⟩
 f27 := ⟨Tryz.f159.name, by decide, Tryz.func159.trans (congrArg some (by kernel_rfl))⟩
 f28 := Tryz.func149.trans (congrArg some (by kernel_rfl))
 f29 := Tryz.func150.trans (congrArg some (by kernel_rfl))
 f46 := ⟨Tryz.f190.name, by decide, Tryz.func190.trans (congrArg some (by kernel_rfl))⟩
 f47 := Tryz.func182.trans (congrArg some (by kernel_rfl))
 f48 := Tryz.func183.trans (congrArg some (by kernel_rfl))
 f49 := ⟨Tryz.f191.name, by decide, Tryz.func191.trans (congrArg some (by kernel_rfl))⟩
 f50 := ⟨Tryz.f192.name, by decide, Tryz.func192.trans (congrArg some (by kernel_rfl))⟩
 f57 := ⟨Tryz.f204.name, by decide, Tryz.func204.trans (congrArg some (by kernel_rfl))⟩
 t0 := Tryz.underlying0
 a0 := Tryz.isAgg0
 z0 := Tryz.sizeOf0
 v0 := Tryz.zeroValue0
 t3 := Tryz.underlying3
 a3 := Tryz.isAgg3
 z3 := Tryz.sizeOf3
 v3 := Tryz.zeroValue3
 t4 := Tryz.underlying4
 a4 := Tryz.isAgg4
 z4 := Tryz.sizeOf4
 v4 := Tryz.zeroValue4
 t5 := Tryz.underlying5
 a5 := Tryz.isAgg5
 z5 := Tryz.sizeOf5
 v5 := Tryz.zeroValue5
 t9 := Tryz.underlying9
 a9 := Tryz.isAgg9
 z9 := Tryz.sizeOf9
 v9 := Tryz.zeroValue9
 t22 := Tryz.underlying29
 a22 := Tryz.isAgg29
 z22 := Tryz.sizeOf29
 v22 := Tryz.zeroValue29
 t25 := Tryz.underlying79
 a25 := Tryz.isAgg79
 z25 := Tryz.sizeOf79
 v25 := Tryz.zeroValue79
 t39 := Tryz.underlying174
 a39 := Tryz.isAgg174
 z39 := Tryz.sizeOf174
 v39 := Tryz.zeroValue174
 t45 := Tryz.underlying201
 a45 := Tryz.isAgg201
 z45 := Tryz.sizeOf201
 v45 := Tryz.zeroValue201
 t46 := Tryz.underlying202
 a46 := Tryz.isAgg202
 z46 := Tryz.sizeOf202
 v46 := Tryz.zeroValue202
 t50 := Tryz.underlying206
 a50 := Tryz.isAgg206
 z50 := Tryz.sizeOf206
 v50 := Tryz.zeroValue206
 t53 := Tryz.underlying209
 a53 := Tryz.isAgg209
 z53 := Tryz.sizeOf209
 v53 := Tryz.zeroValue209
 t55 := Tryz.underlying211
 a55 := Tryz.isAgg211
 z55 := Tryz.sizeOf211
 v55 := Tryz.zeroValue211
 t66 := Tryz.underlying233
 a66 := Tryz.isAgg233
 z66 := Tryz.sizeOf233
 v66 := Tryz.zeroValue233
 t70 := Tryz.underlying237
 a70 := Tryz.isAgg237
 z70 := Tryz.sizeOf237
 v70 := Tryz.zeroValue237
 t76 := Tryz.underlying257
 a76 := Tryz.isAgg257
 z76 := Tryz.sizeOf257
 v76 := Tryz.zeroValue257
 t77 := Tryz.underlying222
 a77 := Tryz.isAgg222
 z77 := Tryz.sizeOf222
 v77 := Tryz.zeroValue222 }
def Tryz.laysSlF06_f74_ren : Go.Shelf.Ren := ⟨fun | 6 => 74 | 15 => 111 | 14 => 110 | 28 => 149 | 29 => 150 | 20 => 141 | 21 => 142 | 22 => 143 | 23 => 144 | 24 => 145 | 25 => 146 | 26 => 147 | 27 => 148 | 46 => 181 | 47 => 182 | 48 => 183 | 49 => 184 | 50 => 185 | 57 => 203 | n => n, fun | 22 => 30 | 24 => 83 | 25 => 101 | 3 => 3 | 39 => 174 | 0 => 0 | 53 => 209 | 55 => 211 | 4 => 4 | 46 => 202 | 45 => 201 | 50 => 206 | 5 => 5 | 9 => 9 | 66 => 233 | 70 => 237 | 76 => 257 | 77 => 222 | n => n, fun | n => n⟩
theorem Tryz.laysSlF06_f74 : Go.Proofs.SlLaysF0.n6 Tryz.prog Tryz.laysSlF06_f74_ren := {
 mixed := by kernel_rfl
 f6 := ⟨Tryz.f74.name, by decide, Tryz.func74.trans (congrArg some (by kernel_rfl))⟩
 f14 := ⟨Tryz.f110.name, by decide, Tryz.func110.trans (congrArg some (by kernel_rfl))⟩
 f15 := Tryz.func111.trans (congrArg some (by kernel_rfl))
 f20 := ⟨Tryz.f141.name, by decide, Tryz.func141.trans (congrArg some (by kernel_rfl))⟩
 f21 := ⟨Tryz.f142.name, by decide, Tryz.func142.trans (congrArg some (by kernel_rfl))⟩
 f22 := ⟨Tryz.f143.name, by decide, Tryz.func143.trans (congrArg some (by kernel_rfl))⟩
 f23 := ⟨Tryz.f144.name, by decide, Tryz.func144.trans (congrArg some (by kernel_rfl))⟩
 f24 := ⟨Tryz.f145.name, by decide, Tryz.func145.trans (congrArg some (by kernel_rfl))⟩
 f25 := ⟨Tryz.f146.name, by decide, Tryz.func146.trans (congrArg some (by kernel_rfl))⟩
 f26 := ⟨Tryz.f147.name, by decide, Tryz.func147.trans (congrArg some (by kernel_rfl))⟩
 f27 := ⟨Tryz.f148.name, by decide, Tryz.func148.trans (congrArg some (by kernel_rfl))⟩
 f28 := Tryz.func149.trans (congrArg some (by kernel_rfl))
 f29 := Tryz.func150.trans (congrArg some (by kernel_rfl))
 f46 := ⟨Tryz.f181.name, by decide, Tryz.func181.trans (congrArg some (by kernel_rfl))⟩
 f47 := Tryz.func182.trans (congrArg some (by kernel_rfl))
 f48 := Tryz.func183.trans (congrArg some (by kernel_rfl))
 f49 := ⟨Tryz.f184.name, by decide, Tryz.func184.trans (congrArg some (by kernel_rfl))⟩
 f50 := ⟨Tryz.f185.name, by decide, Tryz.func185.trans (congrArg some (by kernel_rfl))⟩
 f57 := ⟨Tryz.f203.name, by decide, Tryz.func203.trans (congrArg some (by kernel_rfl))⟩
 t0 := Tryz.underlying0
 a0 := Tryz.isAgg0
 z0 := Tryz.sizeOf0
 v0 := Tryz.zeroValue0
 t3 := Tryz.underlying3
 a3 := Tryz.isAgg3
 z3 := Tryz.sizeOf3
 v3 := Tryz.zeroValue3
 t4 := Tryz.underlying4
 a4 := Tryz.isAgg4
 z4 := Tryz.sizeOf4
 v4 := Tryz.zeroValue4
 t5 := Tryz.underlying5
 a5 := Tryz.isAgg5
 z5 := Tryz.sizeOf5
 v5 := Tryz.zeroValue5
 t9 := Tryz.underlying9
 a9 := Tryz.isAgg9
 z9 := Tryz.sizeOf9
 v9 := Tryz.zeroValue9
 t22 := Tryz.underlying30
 a22 := Tryz.isAgg30
 z22 := Tryz.sizeOf30
 v22 := Tryz.zeroValue30
 t25 := Tryz.underlying101
 a25 := Tryz.isAgg101
 z25 := Tryz.sizeOf101
 v25 := Tryz.zeroValue101
 t39 := Tryz.underlying174
 a39 := Tryz.isAgg174
 z39 := Tryz.sizeOf174
 v39 := Tryz.zeroValue174
 t45 := Tryz.underlying201
 a45 := Tryz.isAgg201
 z45 := Tryz.sizeOf201
 v45 := Tryz.zeroValue201
 t46 := Tryz.underlying202
 a46 := Tryz.isAgg202
 z46 := Tryz.sizeOf202
 v46 := Tryz.zeroValue202
 t50 := Tryz.underlying206
 a50 := Tryz.isAgg206
 z50 := Tryz.sizeOf206
 v50 := Tryz.zeroValue206
 t53 := Tryz.underlying209
 a53 := Tryz.isAgg209
 z53 := Tryz.sizeOf209
 v53 := Tryz.zeroValue209
 t55 := Tryz.underlying211
 a55 := Tryz.isAgg211
 z55 := Tryz.sizeOf211
 v55 := Tryz.zeroValue211
 t66 := Tryz.underlying233
 a66 := Tryz.isAgg233
 z66 := Tryz.sizeOf233
 v66 := Tryz.zeroValue233
 t70 := Tryz.underlying237
 a70 := Tryz.isAgg237
 z70 := Tryz.sizeOf237
 v70 := Tryz.zeroValue237
 t76 := Tryz.underlying257
 a76 := Tryz.isAgg257
 z76 := Tryz.sizeOf257
 v76 := Tryz.zeroValue257
 t77 := Tryz.underlying222
 a77 := Tryz.isAgg222
 z77 := Tryz.sizeOf222
 v77 := Tryz.zeroValue222 }
end Go.Proofs
namespace Go.Proofs.YtjpknpjjcddnnaaGreat
open Go.RowKit
theorem Con.lo {fr : Bool} {f : FuncId} {avs : List AV} {res : AV} (h : Con E0d fr f avs res) : Con E0 fr f avs res :=
 ⟨h.1, fun S w vs ha => (h.2 S w vs ha).mono fun e w' ⟨v, h1, h2, h3⟩ => ⟨v, h1, belE0 h2.1, h3⟩⟩
abbrev Bd := z0g
abbrev Sta := z04
abbrev Ma := z03
abbrev Cf := z00
theorem z1d {α : Type} (l : List α) (k : Nat) (h : k < l.length) : l.drop k = l[k] :: l.drop (k + 1) := List.drop_eq_getElem_cons h
def cmpI (a b : Int) : Int := if a < b then -1 else if b < a then 1 else 0
def or2 (a b : Int) : Int := if a = 0 then b else a
def or3 (a b c : Int) : Int := if a = 0 then (if b = 0 then c else b) else a
structure TO {α : Type} (c : α → α → Int) : Prop where
 one : ∀ a b, c a b = -1 ∨ c a b = 0 ∨ c a b = 1
 zero : ∀ a b, c a b = 0 ↔ a = b
 neg : ∀ a b, c b a = - c a b
 trans : ∀ a b d, c a b < 0 → c b d < 0 → c a d < 0
theorem zrp : TO cmpI where
 one a b := by unfold cmpI; split <;> (try split) <;> omega
 zero a b := by unfold cmpI; split <;> (try split) <;> omega
 neg a b := by unfold cmpI; split <;> (try split) <;> (try split) <;> (try split) <;> omega
 trans a b d := by unfold cmpI; split <;> (try split) <;> (try split) <;> (try split) <;> (try split) <;> (try split) <;> omega
theorem TO.or2 {α β γ : Type} {c : β → β → Int} {d : γ → γ → Int} (hc : TO c) (hd : TO d) (f : α → β) (g : α → γ) (hi : ∀ a b, f a = f b → g a = g b → a = b) : TO (fun a b => or2 (c (f a) (f b)) (d (g a) (g b))) where
 one a b := by
  unfold Proofs.YtjpknpjjcddnnaaGreat.or2
  split
  ·exact hd.one _ _
  ·exact hc.one _ _
 zero a b := by
  unfold Proofs.YtjpknpjjcddnnaaGreat.or2
  split
  ·rename_i h
   rw [hd.zero]
   exact ⟨fun k => hi a b ((hc.zero _ _).1 h) k, fun k => by rw [k]⟩
  ·rename_i h
   exact ⟨fun k => absurd k h, fun k => absurd ((hc.zero _ _).2 (by rw [k])) h⟩
 neg a b := by
  unfold Proofs.YtjpknpjjcddnnaaGreat.or2
  rw [hc.neg (f a) (f b), hd.neg (g a) (g b)]
  by_cases h : c (f a) (f b) = 0
  ·rw [if_pos h, if_pos (by omega)]
  ·rw [if_neg h, if_neg (by omega)]
 trans a b e := by
  unfold Proofs.YtjpknpjjcddnnaaGreat.or2
  intro h1 h2
  by_cases k1 : c (f a) (f b) = 0
  ·rw [if_pos k1] at h1
   have k1' := (hc.zero _ _).1 k1
   rw [k1']
   by_cases k2 : c (f b) (f e) = 0
   ·rw [if_pos k2] at h2 ⊢
    exact hd.trans _ _ _ h1 h2
   ·rw [if_neg k2] at h2 ⊢
    exact h2
  ·rw [if_neg k1] at h1
   by_cases k2 : c (f b) (f e) = 0
   ·have k2' := (hc.zero _ _).1 k2
    rw [← k2', if_neg k1]
    exact h1
   ·rw [if_neg k2] at h2
    have := hc.trans _ _ _ h1 h2
    rw [if_neg (by omega)]
    exact this
theorem TO.map {α β : Type} {c : β → β → Int} (hc : TO c) (f : α → β) (hi : ∀ a b, f a = f b → a = b) : TO (fun a b => c (f a) (f b)) where
 one a b := hc.one _ _
 zero a b := ⟨fun h => hi _ _ ((hc.zero _ _).1 h), fun h => by rw [h]; exact (hc.zero _ _).2 rfl⟩
 neg a b := hc.neg _ _
 trans a b d := hc.trans _ _ _
def lexC {α : Type} (c : α → α → Int) : List α → List α → Int
 | [], [] => 0
 | [], _ :: _ => -1
 | _ :: _, [] => 1
 | a :: x, b :: y => Proofs.YtjpknpjjcddnnaaGreat.or2 (c a b) (lexC c x y)
theorem TO.lex {α : Type} {c : α → α → Int} (hc : TO c) : TO (lexC c) where
 one a b := by
  induction a generalizing b with
  | nil => cases b <;> simp [lexC]
  | cons x a ih =>
    cases b with
    | nil => simp [lexC]
    | cons y b =>
      unfold lexC Proofs.YtjpknpjjcddnnaaGreat.or2
      split
      ·exact ih b
      ·exact hc.one _ _
 zero a b := by
  induction a generalizing b with
  | nil => cases b <;> simp [lexC]
  | cons x a ih =>
    cases b with
    | nil => simp [lexC]
    | cons y b =>
      unfold lexC Proofs.YtjpknpjjcddnnaaGreat.or2
      by_cases h : c x y = 0
      ·rw [if_pos h, ih, (hc.zero _ _).1 h]; simp
      ·rw [if_neg h]
       exact ⟨fun k => absurd k h, fun k => by injection k with k _; exact absurd ((hc.zero _ _).2 k) h⟩
 neg a b := by
  induction a generalizing b with
  | nil => cases b <;> simp [lexC]
  | cons x a ih =>
    cases b with
    | nil => simp [lexC]
    | cons y b =>
      unfold lexC Proofs.YtjpknpjjcddnnaaGreat.or2
      rw [hc.neg x y, ih b]
      by_cases h : c x y = 0
      ·rw [if_pos h, if_pos (by omega)]
      ·rw [if_neg h, if_neg (by omega)]
 trans a b d := by
  induction a generalizing b d with
  | nil =>
    intro h1 h2
    cases b with
    | nil => simp [lexC] at h1
    | cons y b => cases d with
      | nil => simp [lexC] at h2
      | cons z d => simp [lexC]
  | cons x a ih =>
    intro h1 h2
    cases b with
    | nil => simp [lexC] at h1
    | cons y b =>
      cases d with
      | nil => simp [lexC] at h2
      | cons z d =>
        unfold lexC Proofs.YtjpknpjjcddnnaaGreat.or2 at h1 h2 ⊢
        by_cases k1 : c x y = 0
        ·rw [if_pos k1] at h1
         have k1' := (hc.zero _ _).1 k1
         subst k1'
         by_cases k2 : c x z = 0
         ·rw [if_pos k2] at h2 ⊢
          exact ih _ _ h1 h2
         ·rw [if_neg k2] at h2 ⊢
          exact h2
        ·rw [if_neg k1] at h1
         by_cases k2 : c y z = 0
         ·have k2' := (hc.zero _ _).1 k2
          subst k2'
          rw [if_neg k1]
          exact h1
         ·rw [if_neg k2] at h2
          have := hc.trans _ _ _ h1 h2
          rw [if_neg (by omega)]
          exact this
section
variable {α : Type} {c : α → α → Int}
theorem TO.irr (h : TO c) (a : α) : ¬ c a a < 0 := by rw [(h.zero a a).2 rfl]; decide
theorem TO.tri (h : TO c) (a b : α) : c a b < 0 ∨ a = b ∨ c b a < 0 := by
 have h1 := h.zero a b
 have h2 := h.neg a b
 rcases h.one a b with k | k | k
 ·exact Or.inl (by omega)
 ·exact Or.inr (Or.inl (h1.1 k))
 ·exact Or.inr (Or.inr (by omega))
theorem TO.swo (h : TO c) : Go.Sort.SWO (ltOf c) := by
 have hl : ∀ x y, ltOf c x y = decide (c x y < 0) := fun x y => rfl
 refine ⟨fun x => ?_, fun x y z h1 h2 => ?_, fun x y z h1 h2 => ?_⟩ <;> simp only [hl, decide_eq_true_eq, decide_eq_false_iff_not] at *
 ·exact h.irr x
 ·exact h.trans _ _ _ h1 h2
 ·intro h3
  rcases h.tri y x with k | k | k
  ·rcases h.tri z y with q | q | q
   ·exact h.irr x (h.trans _ _ _ (h.trans _ _ _ h3 q) k)
   ·subst q; exact h1 h3
   ·exact h2 q
  ·subst k; exact h2 h3
  ·exact h1 k
theorem TO.ties (h : TO c) (l : List α) : ∀ x ∈ l, ∀ y ∈ l, ltOf c x y = false → ltOf c y x = false → x = y := fun x _ y _ h1 h2 => by
 have h1 : ¬ c x y < 0 := of_decide_eq_false h1
 have h2 : ¬ c y x < 0 := of_decide_eq_false h2
 rcases h.tri x y with k | k | k
 ·exact absurd k h1
 ·exact k
 ·exact absurd k h2
end
def rCmp (a b : z0q) : Int := or3 (cmpI a.fTime b.fTime) (cmpI a.fSource b.fSource) (cmpI a.fSeq b.fSeq)
theorem rCmp_to : TO rCmp := (zrp.or2 (zrp.or2 zrp (fun p : Int × Int => p.1) (fun p => p.2) (fun a b h k => Prod.ext h k)) (fun r : z0q => r.fTime) (fun r => (r.fSource, r.fSeq)) (fun a b h k => by
 cases a; cases b; simp only [Prod.mk.injEq] at h k; simp [h, k]))
def zqf (a b : Bd) : Int := or2 (rCmp a.fRef b.fRef) (cmpI a.fVar b.fVar)
theorem bdCmp_to : TO zqf := rCmp_to.or2 zrp (fun b : Bd => b.fRef) (fun b => b.fVar) (fun a b h k => by cases a; cases b; simp only at h k; simp [h, k])
def zs5 (a b : Sta) : Int := or2 (cmpI a.fScope b.fScope) (cmpI a.fTime b.fTime)
theorem stCmp_to : TO zs5 := zrp.or2 zrp (fun b : Sta => b.fScope) (fun b => b.fTime) (fun a b h k => by cases a; cases b; simp only at h k; simp [h, k])
def maCmp (a b : Ma) : Int := lexC zqf a.fBindings b.fBindings
theorem maCmp_to : TO maCmp := bdCmp_to.lex.map (fun m : Ma => m.fBindings) (fun a b h => by cases a; cases b; simp only at h; rw [h])
def zck (a b : Cf) : Int := or3 (cmpI a.fState b.fState) (lexC zqf a.fBindings b.fBindings) (lexC zs5 a.fStarts b.fStarts)
theorem zk9 : TO zck := (zrp.or2 (bdCmp_to.lex.or2 stCmp_to.lex (fun p : List Bd × List Sta => p.1) (fun p => p.2) (fun a b h k => Prod.ext h k)) (fun c : Cf => c.fState) (fun c => (c.fBindings, c.fStarts)) (fun a b h k => by
 cases a; cases b; simp only [Prod.mk.injEq] at h k; simp [h, k]))
theorem f_cmp_d (n : Nat) (a b : Int) : z3v n a b = some (cmpI a b) := by
 unfold z3v zff
 simp only [z1y, decide_true, Bool.not_true, cnd_f, z6o, cmpI]
 split
 ·rfl
 ·split <;> rfl
theorem f_or2_d (n : Nat) (a b : Int) : zan (n + 3) [a, b] = some (or2 a b) := by
 have w0 : IntKind.wrap .i64 ((0 : Int) + 1) = 1 := by decide
 have w1 : IntKind.wrap .i64 ((1 : Int) + 1) = 2 := by decide
 unfold zan or2
 simp only [z95, List.map_cons, List.map_nil, List.length_cons, List.length_nil, z6o, zb6, w0, w1]
 simp only [idx]
 by_cases ha : a = 0
 ·by_cases hb : b = 0 <;> simp [ha, hb]
 ·simp [ha]
theorem f_or3_d (n : Nat) (a b c : Int) : zan (n + 4) [a, b, c] = some (or3 a b c) := by
 have w0 : IntKind.wrap .i64 ((0 : Int) + 1) = 1 := by decide
 have w1 : IntKind.wrap .i64 ((1 : Int) + 1) = 2 := by decide
 have w2 : IntKind.wrap .i64 ((2 : Int) + 1) = 3 := by decide
 unfold zan or3
 simp only [z95, List.map_cons, List.map_nil, List.length_cons, List.length_nil, z6o, zb6, w0, w1, w2]
 simp only [idx]
 by_cases ha : a = 0
 ·by_cases hb : b = 0
  ·by_cases hc : c = 0 <;> simp [ha, hb, hc]
  ·simp [ha, hb]
 ·simp [ha]
theorem f_refs_d (n : Nat) (a b : z0q) : zdd (n + 4) a b = some (rCmp a b) := by
 unfold zdd
 simp only [z1y, f_cmp_d, f_or3_d]
 rfl
theorem f_bd_d (n : Nat) (a b : Bd) : z82 (n + 4) a b = some (zqf a b) := by
 unfold z82
 simp only [z1y, f_cmp_d, f_refs_d, show n + 4 = (n + 1) + 3 from rfl, f_or2_d]
 rfl
theorem f_st_d (n : Nat) (a b : Sta) : z9p (n + 4) a b = some (zs5 a b) := by
 unfold z9p
 simp only [z1y, f_cmp_d, show n + 4 = (n + 1) + 3 from rfl, f_or2_d]
 rfl
theorem f_cfB_d_l1 (n : Nat) (b a : List Bd) (hb : b.length ≤ 1000000000) (hal : a.length ≤ 1000000000) : ∀ (m k : Nat), k ≤ a.length → k ≤ b.length → a.length < m + k →
  z27 (n + 4) b a (if a.length < b.length then some (-1) else some 0) m k = some (lexC zqf (a.drop k) (b.drop k))
 | 0, k, h1, _, h3 => by omega
 | m + 1, k, h1, h2, h3 => by
   unfold z27
   simp only [List.length_map, z6o, zb6]
   by_cases h : k < a.length
   ·rw [if_pos (by omega), za0 h, z1d a k h]
    by_cases h' : b.length ≤ k
    ·rw [if_pos (by omega), List.drop_eq_nil_of_le h']
     rfl
    ·rw [if_neg (by omega), za0 (by omega : k < b.length), z1d b k (by omega)]
     rw [f_bd_d, z1y, wrapS k (by omega), f_cfB_d_l1 n b a hb hal m (k + 1) (by omega) (by omega) (by omega)]
     show _ = some (or2 (zqf _ _) _)
     unfold or2
     split <;> rfl
   ·rw [if_neg (by omega), List.drop_eq_nil_of_le (by omega : a.length ≤ k)]
    by_cases h' : a.length < b.length
    ·rw [if_pos h', z1d b k (by omega)]; rfl
    ·rw [if_neg h', List.drop_eq_nil_of_le (by omega)]; rfl
theorem f_cfB_d (n : Nat) (a b : List Bd) (hn : a.length < n) (h4 : 4 ≤ n) (hb : b.length ≤ 1000000000) (hal : a.length ≤ 1000000000) : z5s n a b = some (lexC zqf a b) := by
 obtain ⟨m, rfl⟩ : ∃ m, n = m + 4 := ⟨n - 4, by omega⟩
 unfold z5s
 have := f_cfB_d_l1 m b a hb hal (m + 4) 0 (by omega) (by omega) (by omega)
 simp only [Int.natCast_zero, List.drop_zero] at this
 rw [← this]
 congr 1
 simp only [List.length_map, z6o]
 split <;> split <;> first | rfl | omega
theorem f_cfS_d_l1 (n : Nat) (b a : List Sta) (hb : b.length ≤ 1000000000) (hal : a.length ≤ 1000000000) : ∀ (m k : Nat), k ≤ a.length → k ≤ b.length → a.length < m + k →
  z1e (n + 4) b a (if a.length < b.length then some (-1) else some 0) m k = some (lexC zs5 (a.drop k) (b.drop k))
 | 0, k, h1, _, h3 => by omega
 | m + 1, k, h1, h2, h3 => by
   unfold z1e
   simp only [List.length_map, z6o, zb6]
   by_cases h : k < a.length
   ·rw [if_pos (by omega), za0 h, z1d a k h]
    by_cases h' : b.length ≤ k
    ·rw [if_pos (by omega), List.drop_eq_nil_of_le h']
     rfl
    ·rw [if_neg (by omega), za0 (by omega : k < b.length), z1d b k (by omega)]
     rw [f_st_d, z1y, wrapS k (by omega), f_cfS_d_l1 n b a hb hal m (k + 1) (by omega) (by omega) (by omega)]
     show _ = some (or2 (zs5 _ _) _)
     unfold or2
     split <;> rfl
   ·rw [if_neg (by omega), List.drop_eq_nil_of_le (by omega : a.length ≤ k)]
    by_cases h' : a.length < b.length
    ·rw [if_pos h', z1d b k (by omega)]; rfl
    ·rw [if_neg h', List.drop_eq_nil_of_le (by omega)]; rfl
theorem f_cfS_d (n : Nat) (a b : List Sta) (hn : a.length < n) (h4 : 4 ≤ n) (hb : b.length ≤ 1000000000) (hal : a.length ≤ 1000000000) : z4e n a b = some (lexC zs5 a b) := by
 obtain ⟨m, rfl⟩ : ∃ m, n = m + 4 := ⟨n - 4, by omega⟩
 unfold z4e
 have := f_cfS_d_l1 m b a hb hal (m + 4) 0 (by omega) (by omega) (by omega)
 simp only [Int.natCast_zero, List.drop_zero] at this
 rw [← this]
 congr 1
 simp only [List.length_map, z6o]
 split <;> split <;> first | rfl | omega
theorem f_ma_d (n : Nat) (a b : Ma) (hn : a.fBindings.length < n) (h4 : 4 ≤ n) (hb : b.fBindings.length ≤ 1000000000) (hal : a.fBindings.length ≤ 1000000000) : z9q n a b = some (maCmp a b) := by
 unfold z9q
 rw [f_cfB_d n _ _ hn h4 hb hal, z1y]
 rfl
theorem f_cfg_d (n : Nat) (a b : Cf) (hn : a.fBindings.length < n) (hn2 : a.fStarts.length < n) (h4 : 4 ≤ n) (hb : b.fBindings.length ≤ 1000000000) (hal : a.fBindings.length ≤ 1000000000) (hb2 : b.fStarts.length ≤ 1000000000) (hal2 : a.fStarts.length ≤ 1000000000) : zfd n a b = some (zck a b) := by
 unfold zfd
 rw [f_cmp_d, z1y, f_ma_d n _ _ hn h4 hb hal, z1y, f_cfS_d n _ _ hn2 h4 hb2 hal2, z1y]
 obtain ⟨m, rfl⟩ : ∃ m, n = m + 4 := ⟨n - 4, by omega⟩
 rw [f_or3_d, z1y]
 rfl
theorem f_cmp (n : Nat) (a b : Int) : z2g n a b = some (cmpI a b) := by
 unfold z2g zjs
 simp only [z1y, decide_true, Bool.not_true, cnd_f, z6o, cmpI]
 split
 ·rfl
 ·split <;> rfl
theorem f_or2 (n : Nat) (a b : Int) : zdg (n + 3) [a, b] = some (or2 a b) := by
 have w0 : IntKind.wrap .i64 ((0 : Int) + 1) = 1 := by decide
 have w1 : IntKind.wrap .i64 ((1 : Int) + 1) = 2 := by decide
 unfold zdg or2
 simp only [zbm, List.map_cons, List.map_nil, List.length_cons, List.length_nil, z6o, zb6, w0, w1]
 simp only [idx]
 by_cases ha : a = 0
 ·by_cases hb : b = 0 <;> simp [ha, hb]
 ·simp [ha]
theorem f_or3 (n : Nat) (a b c : Int) : zdg (n + 4) [a, b, c] = some (or3 a b c) := by
 have w0 : IntKind.wrap .i64 ((0 : Int) + 1) = 1 := by decide
 have w1 : IntKind.wrap .i64 ((1 : Int) + 1) = 2 := by decide
 have w2 : IntKind.wrap .i64 ((2 : Int) + 1) = 3 := by decide
 unfold zdg or3
 simp only [zbm, List.map_cons, List.map_nil, List.length_cons, List.length_nil, z6o, zb6, w0, w1, w2]
 simp only [idx]
 by_cases ha : a = 0
 ·by_cases hb : b = 0
  ·by_cases hc : c = 0 <;> simp [ha, hb, hc]
  ·simp [ha, hb]
 ·simp [ha]
theorem f_refs (n : Nat) (a b : z0q) : zhk (n + 4) a b = some (rCmp a b) := by
 unfold zhk
 simp only [z1y, f_cmp, f_or3]
 rfl
theorem f_bd (n : Nat) (a b : Bd) : z9r (n + 4) a b = some (zqf a b) := by
 unfold z9r
 simp only [z1y, f_cmp, f_refs, show n + 4 = (n + 1) + 3 from rfl, f_or2]
 rfl
theorem f_st (n : Nat) (a b : Sta) : zbl (n + 4) a b = some (zs5 a b) := by
 unfold zbl
 simp only [z1y, f_cmp, show n + 4 = (n + 1) + 3 from rfl, f_or2]
 rfl
theorem f_cfB_l1 (n : Nat) (b a : List Bd) (hb : b.length ≤ 1000000000) (hal : a.length ≤ 1000000000) : ∀ (m k : Nat), k ≤ a.length → k ≤ b.length → a.length < m + k →
  z2o (n + 4) b a (if a.length < b.length then some (-1) else some 0) m k = some (lexC zqf (a.drop k) (b.drop k))
 | 0, k, h1, _, h3 => by omega
 | m + 1, k, h1, h2, h3 => by
   unfold z2o
   simp only [List.length_map, z6o, zb6]
   by_cases h : k < a.length
   ·rw [if_pos (by omega), za0 h, z1d a k h]
    by_cases h' : b.length ≤ k
    ·rw [if_pos (by omega), List.drop_eq_nil_of_le h']
     rfl
    ·rw [if_neg (by omega), za0 (by omega : k < b.length), z1d b k (by omega)]
     rw [f_bd, z1y, wrapS k (by omega), f_cfB_l1 n b a hb hal m (k + 1) (by omega) (by omega) (by omega)]
     show _ = some (or2 (zqf _ _) _)
     unfold or2
     split <;> rfl
   ·rw [if_neg (by omega), List.drop_eq_nil_of_le (by omega : a.length ≤ k)]
    by_cases h' : a.length < b.length
    ·rw [if_pos h', z1d b k (by omega)]; rfl
    ·rw [if_neg h', List.drop_eq_nil_of_le (by omega)]; rfl
theorem f_cfB (n : Nat) (a b : List Bd) (hn : a.length < n) (h4 : 4 ≤ n) (hb : b.length ≤ 1000000000) (hal : a.length ≤ 1000000000) : z79 n a b = some (lexC zqf a b) := by
 obtain ⟨m, rfl⟩ : ∃ m, n = m + 4 := ⟨n - 4, by omega⟩
 unfold z79
 have := f_cfB_l1 m b a hb hal (m + 4) 0 (by omega) (by omega) (by omega)
 simp only [Int.natCast_zero, List.drop_zero] at this
 rw [← this]
 congr 1
 simp only [List.length_map, z6o]
 split <;> split <;> first | rfl | omega
theorem f_cfS_l1 (n : Nat) (b a : List Sta) (hb : b.length ≤ 1000000000) (hal : a.length ≤ 1000000000) : ∀ (m k : Nat), k ≤ a.length → k ≤ b.length → a.length < m + k →
  z1k (n + 4) b a (if a.length < b.length then some (-1) else some 0) m k = some (lexC zs5 (a.drop k) (b.drop k))
 | 0, k, h1, _, h3 => by omega
 | m + 1, k, h1, h2, h3 => by
   unfold z1k
   simp only [List.length_map, z6o, zb6]
   by_cases h : k < a.length
   ·rw [if_pos (by omega), za0 h, z1d a k h]
    by_cases h' : b.length ≤ k
    ·rw [if_pos (by omega), List.drop_eq_nil_of_le h']
     rfl
    ·rw [if_neg (by omega), za0 (by omega : k < b.length), z1d b k (by omega)]
     rw [f_st, z1y, wrapS k (by omega), f_cfS_l1 n b a hb hal m (k + 1) (by omega) (by omega) (by omega)]
     show _ = some (or2 (zs5 _ _) _)
     unfold or2
     split <;> rfl
   ·rw [if_neg (by omega), List.drop_eq_nil_of_le (by omega : a.length ≤ k)]
    by_cases h' : a.length < b.length
    ·rw [if_pos h', z1d b k (by omega)]; rfl
    ·rw [if_neg h', List.drop_eq_nil_of_le (by omega)]; rfl
theorem f_cfS (n : Nat) (a b : List Sta) (hn : a.length < n) (h4 : 4 ≤ n) (hb : b.length ≤ 1000000000) (hal : a.length ≤ 1000000000) : z4l n a b = some (lexC zs5 a b) := by
 obtain ⟨m, rfl⟩ : ∃ m, n = m + 4 := ⟨n - 4, by omega⟩
 unfold z4l
 have := f_cfS_l1 m b a hb hal (m + 4) 0 (by omega) (by omega) (by omega)
 simp only [Int.natCast_zero, List.drop_zero] at this
 rw [← this]
 congr 1
 simp only [List.length_map, z6o]
 split <;> split <;> first | rfl | omega
theorem f_ma (n : Nat) (a b : Ma) (hn : a.fBindings.length < n) (h4 : 4 ≤ n) (hb : b.fBindings.length ≤ 1000000000) (hal : a.fBindings.length ≤ 1000000000) : z9s n a b = some (maCmp a b) := by
 unfold z9s
 rw [f_cfB n _ _ hn h4 hb hal, z1y]
 rfl
theorem f_cfg (n : Nat) (a b : Cf) (hn : a.fBindings.length < n) (hn2 : a.fStarts.length < n) (h4 : 4 ≤ n) (hb : b.fBindings.length ≤ 1000000000) (hal : a.fBindings.length ≤ 1000000000) (hb2 : b.fStarts.length ≤ 1000000000) (hal2 : a.fStarts.length ≤ 1000000000) : zfe n a b = some (zck a b) := by
 unfold zfe
 rw [f_cmp, z1y, f_ma n _ _ hn h4 hb hal, z1y, f_cfS n _ _ hn2 h4 hb2 hal2, z1y]
 obtain ⟨m, rfl⟩ : ∃ m, n = m + 4 := ⟨n - 4, by omega⟩
 rw [f_or3, z1y]
 rfl
def cfOk (c : Cf) : Bool := decide (c.fBindings.length ≤ 1000000000) && decide (c.fStarts.length ≤ 1000000000)
def maOk (c : Ma) : Bool := decide (c.fBindings.length ≤ 1000000000)
theorem zbu (c : Cf) : cfOk c = true ↔ c.fBindings.length ≤ 1000000000 ∧ c.fStarts.length ≤ 1000000000 := by simp [cfOk]
theorem maOk_iff (c : Ma) : maOk c = true ↔ c.fBindings.length ≤ 1000000000 := by simp [maOk]
def zpq {T : Type} [DecidableEq T] (ok : T → Bool) (cmp : T → T → Int) (n : Nat) (l : List T) : Option (List T) :=
 if h : ∀ x ∈ l, ok x = true then (F_sort (fun a b : { x : T // ok x = true } => cmp a.1 b.1) n (l.attachWith (fun x => ok x = true) h)).map (fun q => q.map (·.1)) else none
section
variable {T : Type} [DecidableEq T]
omit [DecidableEq T] in
theorem insF_map {U : Type} {d : U → U → Int} {c : T → T → Int} (f : U → T) (h : ∀ a b, d a b = c (f a) (f b)) (x : U) : ∀ l : List U, (insF d x l).map f = insF c (f x) (l.map f)
 | [] => rfl
 | y :: l => by
   have e : ltOf d y x = ltOf c (f y) (f x) := by unfold ltOf; rw [h]
   simp only [insF, List.map_cons, e]
   cases ltOf c (f y) (f x) with
   | true => simp only [List.map_cons, insF_map f h x l]
   | false => rfl
omit [DecidableEq T] in
theorem sortF_map {U : Type} {d : U → U → Int} {c : T → T → Int} (f : U → T) (h : ∀ a b, d a b = c (f a) (f b)) : ∀ l : List U, (sortF d l).map f = sortF c (l.map f)
 | [] => rfl
 | x :: l => by simp only [sortF, List.map_cons, insF_map f h, sortF_map f h l]
theorem sortS_eq {ok : T → Bool} {cmp : T → T → Int} (hc : TO cmp) (n : Nat) (l : List T) (h : ∀ x ∈ l, ok x = true) (hl : l.length ≤ 1000000000) : zpq ok cmp n l = some (sortF cmp l) := by
 unfold zpq
 rw [dif_pos h]
 have hc' : TO (fun a b : { x : T // ok x = true } => cmp a.1 b.1) := hc.map (fun x : { x : T // ok x = true } => x.1) (fun a b h => Subtype.ext h)
 unfold F_sort
 rw [if_pos ⟨by rw [List.length_attachWith]; exact hl, hc'.ties _⟩]
 simp only [Option.map_some]
 rw [sortF_map (c := cmp) (fun x : { x : T // ok x = true } => x.1) (fun a b => rfl), List.attachWith_map_subtype_val]
theorem sortS_con {f g ty sz : Nat} {ok : T → Bool} {cmp : T → T → Int} {enc : T → AV} {n : Nat} {l l' : List T} (H : ∀ {q q' : List { x : T // ok x = true }}, F_sort (fun a b : { x : T // ok x = true } => cmp a.1 b.1) n q = some q' → ConC true E0 f [.row 0, .fn g []] ty sz (q.map fun x => enc x.1) ty sz (q'.map fun x => enc x.1) (.tup [])) (hF : zpq ok cmp n l = some l') :
  ConC true E0 f [.row 0, .fn g []] ty sz (l.map enc) ty sz (l'.map enc) (.tup []) := by
 unfold zpq at hF
 split at hF
 ·rename_i h
  cases hq : F_sort (fun a b : { x : T // ok x = true } => cmp a.1 b.1) n (l.attachWith (fun x => ok x = true) h) with
  | none => rw [hq] at hF; cases hF
  | some q =>
    rw [hq] at hF
    injection hF with hF
    have := H hq
    rw [show (q.map fun x => enc x.1) = l'.map enc by rw [← hF, List.map_map]; rfl] at this
    rw [show ((l.attachWith (fun x => ok x = true) h).map fun x => enc x.1) = l.map enc from List.attachWith_map_val (f := enc) h] at this
    exact this
 ·cases hF
end
theorem con_cfCmp_d (a b : { x : Cf // cfOk x = true }) : Con E0d true 59 [z08 a.1, z08 b.1] (.int .i64 (zck a.1 b.1)) := by
 obtain ⟨h1, h2⟩ := (zbu a.1).1 a.2
 obtain ⟨h3, h4⟩ := (zbu b.1).1 b.2
 exact con_run_compare_d (f_cfg_d 1000000010 a.1 b.1 (by omega) (by omega) (by omega) h3 h1 h4 h2)
theorem con_maCmp_d (a b : { x : Ma // maOk x = true }) : Con E0d true 43 [z0j a.1, z0j b.1] (.int .i64 (maCmp a.1 b.1)) := by
 have h1 := (maOk_iff a.1).1 a.2
 have h3 := (maOk_iff b.1).1 b.2
 exact ziw (f_ma_d 1000000010 a.1 b.1 (by omega) (by omega) h3 h1)
theorem sortCf_con {n : Nat} {l l' : List Cf} (hF : zpq cfOk zck n l = some l') : ConC true E0 86 [.row 0, .fn 59 []] 77 3 (l.map z08) 77 3 (l'.map z08) (.tup []) :=
 sortS_con (fun hq => sort_gen (Ed := E0d) rfl rfl (z06 Tryz.func86 rfl rfl) (z06 Tryz.func59 rfl rfl) (by omega) (fun x => ⟨_, rfl, rfl⟩)
  (fun α _ enc hk h1 cf hO blk off cap d w hcmp hH hblk hsz => AnyQ.slices_SortFunc Tryz.laysSlF06_f86 3 Tryz.isAgg77 Tryz.sizeOf77 enc hk h1 cf hO 59 #[] blk off cap d w (z06 Tryz.func59 rfl rfl) hcmp hH hblk hsz)
  (fun p cap fv w => AnyF.slices_SortFunc_none Tryz.laysSlF06_f86 p cap fv w) con_cfCmp_d (zk9.map (fun x : { x : Cf // cfOk x = true } => x.1) (fun a b h => Subtype.ext h)).swo hq) hF
theorem sortMa_con {n : Nat} {l l' : List Ma} (hF : zpq maOk maCmp n l = some l') : ConC true E0 74 [.row 0, .fn 43 []] 83 1 (l.map z0j) 83 1 (l'.map z0j) (.tup []) :=
 sortS_con (fun hq => sort_gen (Ed := E0d) rfl rfl (z06 Tryz.func74 rfl rfl) (z06 Tryz.func43 rfl rfl) (by omega) (fun x => ⟨_, rfl, rfl⟩)
  (fun α _ enc hk h1 cf hO blk off cap d w hcmp hH hblk hsz => AnyQ.slices_SortFunc Tryz.laysSlF06_f74 1 Tryz.isAgg83 Tryz.sizeOf83 enc hk h1 cf hO 43 #[] blk off cap d w (z06 Tryz.func43 rfl rfl) hcmp hH hblk hsz)
  (fun p cap fv w => AnyF.slices_SortFunc_none Tryz.laysSlF06_f74 p cap fv w) con_maCmp_d (maCmp_to.map (fun x : { x : Ma // maOk x = true } => x.1) (fun a b h => Subtype.ext h)).swo hq) hF
end Go.Proofs.YtjpknpjjcddnnaaGreat
namespace Go.Proofs.YtjpknpjjcddnnaaGreat
open Go.RowKit
section
variable {α : Type} {c : α → α → Int}
theorem TO.asym (h : TO c) {a b : α} (k : c a b < 0) : ¬ c b a < 0 := by have := h.neg a b; omega
theorem TO.lt_ne (h : TO c) {a b : α} (k : c a b < 0) : a ≠ b := fun e => by subst e; exact h.irr _ k
def Str (c : α → α → Int) (l : List α) : Prop := l.Pairwise (fun x y => c x y < 0)
theorem Str.uniq (h : TO c) : ∀ {l m : List α}, Str c l → Str c m → (∀ x, x ∈ l ↔ x ∈ m) → l = m
 | [], [], _, _, _ => rfl
 | [], y :: m, _, _, hm => by have := (hm y).2 (by simp); simp at this
 | x :: l, [], _, _, hm => by have := (hm x).1 (by simp); simp at this
 | x :: l, y :: m, h1, h2, hm => by
   obtain ⟨a1, a2⟩ := List.pairwise_cons.1 h1
   obtain ⟨b1, b2⟩ := List.pairwise_cons.1 h2
   have hxy : x = y := by
    rcases List.mem_cons.1 ((hm x).1 (by simp)) with e | e
    ·exact e
    ·rcases List.mem_cons.1 ((hm y).2 (by simp)) with e' | e'
     ·exact e'.symm
     ·exact absurd (a1 y e') (h.asym (b1 x e))
   subst hxy
   congr 1
   refine Str.uniq h a2 b2 (fun z => ⟨fun hz => ?_, fun hz => ?_⟩)
   ·rcases List.mem_cons.1 ((hm z).1 (List.mem_cons_of_mem _ hz)) with e | e
    ·exact absurd e.symm (h.lt_ne (a1 z hz))
    ·exact e
   ·rcases List.mem_cons.1 ((hm z).2 (List.mem_cons_of_mem _ hz)) with e | e
    ·exact absurd e.symm (h.lt_ne (b1 z hz))
    ·exact e
def insU (c : α → α → Int) (x : α) : List α → List α
 | [] => [x]
 | y :: l => if c y x < 0 then y :: insU c x l else if c y x = 0 then y :: l else x :: y :: l
theorem insU_mem (h : TO c) (x z : α) : ∀ l : List α, z ∈ insU c x l ↔ z = x ∨ z ∈ l
 | [] => by simp [insU]
 | y :: l => by
   unfold insU
   split
   ·simp only [List.mem_cons, insU_mem h x z l]
    constructor
    ·rintro (h | h | h) <;> simp [h]
    ·rintro (h | h | h) <;> simp [h]
   ·split
    ·rename_i e
     have := (h.zero _ _).1 e
     subst this
     simp only [List.mem_cons]
     constructor
     ·intro k; exact Or.inr k
     ·rintro (k | k)
      ·exact Or.inl k
      ·exact k
    ·simp only [List.mem_cons]
theorem insU_str (h : TO c) (x : α) : ∀ l : List α, Str c l → Str c (insU c x l)
 | [], _ => by simp [insU, Str]
 | y :: l, hl => by
   obtain ⟨h1, h2⟩ := List.pairwise_cons.1 hl
   unfold insU
   split
   ·rename_i k
    refine List.pairwise_cons.2 ⟨fun z hz => ?_, insU_str h x l h2⟩
    rcases (insU_mem h x z l).1 hz with e | e
    ·rw [e]; exact k
    ·exact h1 z e
   ·split
    ·exact hl
    ·rename_i k1 k2
     have k3 : c x y < 0 := by have := h.neg y x; have := h.one y x; omega
     refine List.pairwise_cons.2 ⟨fun z hz => ?_, hl⟩
     rcases List.mem_cons.1 hz with e | e
     ·rw [e]; exact k3
     ·exact h.trans _ _ _ k3 (h1 z e)
theorem insU_len (c : α → α → Int) (x : α) : ∀ l : List α, (insU c x l).length ≤ l.length + 1
 | [] => by simp [insU]
 | y :: l => by
   unfold insU
   have := insU_len c x l
   split
   ·simp only [List.length_cons]; omega
   ·split <;> simp only [List.length_cons] <;> omega
def puts (c : α → α → Int) (s : List α) (l : List α) : List α := l.foldl (fun s x => insU c x s) s
def setL (c : α → α → Int) (l : List α) : List α := puts c [] l
theorem puts_nil (s : List α) : puts c s [] = s := rfl
theorem zs7 (s : List α) (x : α) (l : List α) : puts c s (x :: l) = puts c (insU c x s) l := rfl
theorem puts_mem (h : TO c) (z : α) : ∀ (l s : List α), z ∈ puts c s l ↔ z ∈ s ∨ z ∈ l
 | [], s => by simp [puts]
 | x :: l, s => by
   rw [zs7, puts_mem h z l, insU_mem h]
   simp only [List.mem_cons]
   constructor
   ·rintro ((k | k) | k) <;> simp [k]
   ·rintro (k | k | k) <;> simp [k]
theorem puts_str (h : TO c) : ∀ (l s : List α), Str c s → Str c (puts c s l)
 | [], _, hs => hs
 | x :: l, s, hs => by rw [zs7]; exact puts_str h l _ (insU_str h x s hs)
theorem puts_len : ∀ (l s : List α), (puts c s l).length ≤ s.length + l.length
 | [], s => by simp [puts]
 | x :: l, s => by
   rw [zs7]
   have := puts_len l (insU c x s)
   have := insU_len c x s
   simp only [List.length_cons]; omega
theorem setL_mem (h : TO c) (z : α) (l : List α) : z ∈ setL c l ↔ z ∈ l := by unfold setL; rw [puts_mem h]; simp
theorem setL_str (h : TO c) (l : List α) : Str c (setL c l) := puts_str h l [] (by simp [Str])
theorem setL_len (l : List α) : (setL c l).length ≤ l.length := by have := puts_len (c := c) l []; simpa [setL] using this
variable [DecidableEq α]
def ddA (p : α) : List α → List α
 | [] => []
 | y :: l => if y = p then ddA p l else y :: ddA y l
def dd : List α → List α
 | [] => []
 | x :: l => x :: ddA x l
theorem ddA_snoc (p z : α) : ∀ l : List α, ddA p (l ++ [z]) = ddA p l ++ (if z = (p :: l).getLast (by simp) then [] else [z])
 | [] => by by_cases h : z = p <;> simp [ddA, h]
 | y :: l => by
   have e : (p :: y :: l).getLast (by simp) = (y :: l).getLast (by simp) := by rw [List.getLast_cons (by simp)]
   simp only [List.cons_append, ddA]
   rw [e]
   by_cases h : y = p
   ·subst h
    rw [if_pos rfl, if_pos rfl, ddA_snoc y z l]
   ·rw [if_neg h, if_neg h, ddA_snoc y z l]
    rfl
theorem dd_snoc (l : List α) (z : α) (h : l ≠ []) : dd (l ++ [z]) = dd l ++ (if z = l.getLast h then [] else [z]) := by
 cases l with
 | nil => exact absurd rfl h
 | cons x l =>
   show x :: ddA x (l ++ [z]) = _
   rw [ddA_snoc]
   rfl
theorem ddA_mem (x : α) : ∀ (l : List α) (p : α), x ∈ ddA p l ∨ x = p ↔ x ∈ l ∨ x = p
 | [], p => by simp [ddA]
 | y :: l, p => by
   unfold ddA
   split
   ·rename_i h
    subst h
    rw [ddA_mem x l y]
    simp only [List.mem_cons]
    constructor
    ·rintro (k | k) <;> simp [k]
    ·rintro ((k | k) | k) <;> simp [k]
   ·have := ddA_mem x l y
    simp only [List.mem_cons]
    constructor
    ·rintro ((k | k) | k)
     ·exact Or.inl (Or.inl k)
     ·rcases this.1 (Or.inl k) with q | q
      ·exact Or.inl (Or.inr q)
      ·exact Or.inl (Or.inl q)
     ·exact Or.inr k
    ·rintro ((k | k) | k)
     ·exact Or.inl (Or.inl k)
     ·rcases this.2 (Or.inl k) with q | q
      ·exact Or.inl (Or.inr q)
      ·exact Or.inl (Or.inl q)
     ·exact Or.inr k
theorem dd_mem (x : α) (l : List α) : x ∈ dd l ↔ x ∈ l := by
 cases l with
 | nil => simp [dd]
 | cons y l =>
   simp only [dd, List.mem_cons]
   have := ddA_mem x l y
   constructor
   ·rintro (k | k)
    ·exact Or.inl k
    ·rcases this.1 (Or.inl k) with q | q
     ·exact Or.inr q
     ·exact Or.inl q
   ·rintro (k | k)
    ·exact Or.inl k
    ·rcases this.2 (Or.inl k) with q | q
     ·exact Or.inr q
     ·exact Or.inl q
theorem ddA_str (h : TO c) : ∀ (l : List α) (p : α), (p :: l).Pairwise (fun x y => ltOf c y x = false) → Str c (p :: ddA p l)
 | [], p, _ => by simp [ddA, Str]
 | y :: l, p, hl => by
   obtain ⟨h1, h2⟩ := List.pairwise_cons.1 hl
   have hle : ∀ z, z ∈ y :: l → ¬ c z p < 0 := fun z hz => of_decide_eq_false (h1 z hz)
   unfold ddA
   split
   ·rename_i e
    refine ddA_str h l p (List.pairwise_cons.2 ⟨fun z hz => h1 z (List.mem_cons_of_mem _ hz), (List.pairwise_cons.1 h2).2⟩)
   ·rename_i e
    have ih := ddA_str h l y h2
    have hpy : c p y < 0 := by
     rcases h.tri p y with k | k | k
     ·exact k
     ·exact absurd k.symm e
     ·exact absurd k (hle y (by simp))
    refine List.pairwise_cons.2 ⟨fun z hz => ?_, ih⟩
    rcases List.mem_cons.1 hz with k | k
    ·rw [k]; exact hpy
    ·exact h.trans _ _ _ hpy ((List.pairwise_cons.1 ih).1 z k)
theorem dd_sort (h : TO c) (l : List α) : dd (sortF c l) = setL c l := by
 have hs := znz h.swo l
 refine Str.uniq h ?_ (setL_str h l) (fun x => by rw [dd_mem, setL_mem h]; exact (zij c l).mem_iff)
 cases hq : sortF c l with
 | nil => simp [dd, Str]
 | cons x q => rw [hq] at hs; exact ddA_str h q x hs
end
end Go.Proofs.YtjpknpjjcddnnaaGreat
namespace Go.Proofs.YtjpknpjjcddnnaaGreat
open Go.RowKit
abbrev Cel (n : Nat) := { l : List Value // l.length = n ∧ ∀ u ∈ l, u.oneCell' = true }
def encC {n : Nat} (x : Cel n) : List Value := x.1
theorem eokC {P : Program} {T e sz eb : Nat} {i ie : TyI} (hT : TyOk P T i) (hs : i.shape = .slc e sz eb) (he : TyOk P e ie) (hz : 0 < sz) (hzs : ie.zero.cells.size = sz) : EOk P T e sz ie.bytes (encC (n := sz)) := by
 obtain ⟨hu, hce, _⟩ := z9z hT hs
 obtain ⟨x, h1, h2, h3, h4⟩ := he.both
 exact ⟨hu, ⟨x, ie.zero, h1, h4, by rw [h2, ← he.cells, hce], h3, hzs⟩, hz, fun x => x.2.1, fun x => x.2.2⟩
def zcs {α : Type} (n : Nat) (l : List α) : Option (List α) := if l.length ≤ 1000000000 then some l else none
theorem zor {f : FuncId} {e sz : Nat} {P : Program} {E : Env} (hP : E.P = P) (hE : z9y E f) (any : ∀ (l : List (Cel sz)) (S : Nat → Prop) (v : Value) (w : World), Sl w S sz encC v l → l.length ≤ 1000000000 → Calls P f #[v] w (RetOwn e sz encC l w)) {α : Type} {enc : α → AV} {n : Nat} {a r : List α} (hF : zcs n a = some r) :
  ConT E f [.sl sz (List.map enc a)] e sz (List.map enc r) (.row 0) := by
 unfold zcs at hF
 split at hF
 ·rename_i hl
  injection hF with hF
  subst hF
  refine .ofRow ⟨hE, fun S w vs ⟨hn, hr⟩ => ?_⟩
  have e1 := getD1 hn
  have h0 : Rep w S G0 (.sl sz (List.map enc a)) (vs.getD 0 undef) := hr 0 (by simp)
  rw [e1, hP]
  obtain ⟨A, c, hv, hc, hlen, cell, hb, hrr, h1⟩ := h0.sl_inv
  let l : List (Cel sz) := (List.range (List.map enc a).length).map fun k => ⟨(List.range sz).map fun j => cell k j, by simp, fun u hu => by
   obtain ⟨j, _, rfl⟩ := List.mem_map.1 hu
   exact h1 k j⟩
  have hll : l.length = (List.map enc a).length := by simp [l]
  have hlk : ∀ k (hk : k < l.length), (encC l[k]) = (List.range sz).map fun j => cell k j := fun k hk => by simp [l, encC]
  have hsl : Sl w S sz encC (vs.getD 0 undef) l := by
   refine ⟨A, c, by rw [hv, hll], by rw [hll]; exact hc, fun h0 => ?_⟩
   obtain ⟨b, off, hA, hS, hlt, hcell⟩ := hb (by rw [← hll]; exact h0)
   refine ⟨b, off, hA, hS, hlt, fun k hk j u hu => ?_⟩
   rw [hlk k hk] at hu
   have hj : j < sz := by have := (List.getElem?_eq_some_iff.1 hu).1; simpa using this
   rw [List.getElem?_map, List.getElem?_range hj] at hu
   simp only [Option.map_some, Option.some.injEq] at hu
   subst hu
   exact hcell k j (by rw [← hll]; exact hk) hj
  refine (any l S _ w hsl (by rw [hll, List.length_map]; exact hl)).mono fun ed w' ⟨A', c', q1, q2, q3⟩ => ?_
  refine ⟨_, l.flatMap encC, q1, q3, ?_, hlen, fun k hk j hj => ?_, fun u hu => ?_⟩
  ·have : w'.ownsRow w.heap.size e sz (.slice A' l.length c') l.length (l.flatMap encC) := q2
   rw [hll] at this
   rw [hll]
   exact this
  ·have hj' : j < sz := by rw [hlen k hk] at hj; exact hj
   have hk' : k < l.length := by rw [hll]; exact hk
   have hat := zlm (enc := encC (n := sz)) (fun x _ => x.2.1) k hk' j hj' (cell k j) (by rw [hlk k hk', List.getElem?_map, List.getElem?_range hj']; rfl)
   rw [List.getD_eq_getElem?_getD, hat]
   refine (hrr k hk j hj).mono q3.size (fun b hb hlt => ⟨q3.block b hlt, Or.inl hb, fun e => ?_⟩)
   have h2 : w'.ownsRow w.heap.size _ sz (.slice A' l.length c') l.length (l.flatMap encC) := q2
   rcases h2.2 with ⟨h, _⟩ | ⟨g, cap, cur, h, hg, _⟩
   ·rw [h] at e; simp [Value.ownBlock] at e
   ·rw [h] at e; simp only [Value.ownBlock, Option.some.injEq] at e; subst e; omega
  ·obtain ⟨x, _, hx⟩ := List.mem_flatMap.1 hu
   exact x.2.2 u hx
 ·cases hF
theorem ConT.close {E : Env} {f : FuncId} {args xs : List AV} {ty sz : Nat} (h : ConT E f args ty sz xs (.row 0)) (hE : E.dr = false) : Con E false f args (.sl sz xs) :=
 ⟨h.1, fun S w vs ha => (h.2.2 S w vs ha).mono fun e w' ⟨u, v, us, h1, h2, h3, h4, h5, h6, h7⟩ => by
  have hr := h7 (fun _ => some (some (v.ownBlock, v))) rfl
  have huv : u = v := hr.row_inv rfl (zll (z5p h3))
  subst huv
  refine ⟨u, h1, ⟨h2, fun h => absurd (hE.symm.trans h) (by simp)⟩, ?_⟩
  have hrep : z5y w' (fun b => (S b ∨ w.heap.size ≤ b) ∧ u.ownBlock ≠ some b) G0 w.heap.size (some (u.ownBlock, u)) (.row ty sz xs) := ⟨u, us, rfl, z5p h3, h3, h4, h5, h6⟩
  obtain ⟨s, hs, hrr⟩ := row_sl (S' := fun b => (false = false ∧ S b) ∨ w.heap.size ≤ b) hrep (fun b hb _ => hb.1.elim (fun h => Or.inl ⟨rfl, h⟩) Or.inr) (fun s g hg => by
   injection hg with hg
   injection hg with hg _
   rcases h3.2 with ⟨h, _⟩ | ⟨g', cap, cur, h, hb, _⟩
   ·rw [h] at hg; simp [Value.ownBlock] at hg
   ·rw [h] at hg; simp only [Value.ownBlock, Option.some.injEq] at hg; subst hg; exact Or.inr hb) G0
  injection hs with hs
  injection hs with _ hs
  rw [hs]
  exact hrr⟩
theorem ConT.sub {E : Env} {f : FuncId} {avs bvs xs : List AV} {ty sz : Nat} {res : AV} (h : SubL avs bvs) (hc : ConT E f bvs ty sz xs res) : ConT E f avs ty sz xs res :=
 ⟨hc.1, hc.2.1, fun S w vs ⟨hl, hr⟩ => hc.2.2 S w vs ⟨by rw [hl, h.len], fun i hi => (hr i (by rw [h.len]; exact hi)).sub (h.at i _ hi)⟩⟩
def Xk (w : World) (g off : Nat) (X : List Value) : Prop := ∃ cur ty fr, w.heap[g]? = some (.cells cur ty fr) ∧ 0 < cur.size ∧ ∀ j u, X[j]? = some u → cur[off + j]? = some u
section
variable {w w' : World} {g off : Nat} {X : List Value}
theorem Xk.lt (h : Xk w g off X) : g < w.heap.size := by
 obtain ⟨cur, ty, fr, h, _⟩ := h
 exact (Array.getElem?_eq_some_iff.1 h).1
theorem Xk.cell (h : Xk w g off X) {j : Nat} {u : Value} (hu : X[j]? = some u) : w.cell? ⟨g, off + j, none⟩ = some u := by
 obtain ⟨cur, ty, fr, h, _, h2⟩ := h
 simp [World.cell?, h, h2 j u hu]
theorem Xk.grown {row : Option Nat} (h : Xk w g off X) (hb : w.grownBy w' row) (hg : some g ≠ row) : Xk w' g off X := by
 have hl := h.lt
 obtain ⟨cur, ty, fr, h, h2⟩ := h
 exact ⟨cur, ty, fr, (hb.block g hl hg).trans h, h2⟩
theorem Xk.alloc (h : Xk w g off X) (o : Obj) : Xk (w.alloc o) g off X := by
 have hl := h.lt
 obtain ⟨cur, ty, fr, h, h2⟩ := h
 exact ⟨cur, ty, fr, (Below.heap_alloc w o g hl).trans h, h2⟩
theorem Xk.shape (h : Xk w g off X) : ∃ t k, k ≠ 0 ∧ w.shape? g = some (t, k) := by
 obtain ⟨cur, ty, fr, h, h1, _⟩ := h
 exact ⟨ty, cur.size, by omega, by simp [World.shape?, h]⟩
theorem Sl.one_x {α : Type} {enc : α → List Value} {sz c : Nat} {x : α} (hc : 1 ≤ c) (h : Xk w g off (enc x)) : Sl w (fun _ => True) sz enc (.slice (some ⟨g, off, none⟩) 1 c) [x] :=
 ⟨_, c, rfl, hc, fun _ => ⟨g, off, rfl, trivial, h.lt, fun k hk j u hu => by
  have : k = 0 := by simpa using hk
  subst this
  simpa using h.cell (by simpa using hu)⟩⟩
end
theorem run_overlaps_b {P : Program} (w : World) (tS tR e : TypeId) (ht : P.underlying tS = some (.slice e)) (size : Nat) (hz : ∀ w, (Go.sizeOf e).run P w = .ok size w)
  (a b : Addr) (la ca lb cb : Nat) (hne : a.block ≠ b.block) (hsa : ∃ t k, k ≠ 0 ∧ w.shape? a.block = some (t, k)) (tB : TypeId) (kB : Nat) (hsb : w.shape? b.block = some (tB, kB)) (hkB : kB ≠ 0)
  (hfb : w.frozen? b = false) (hfe : w.frozen? { block := b.block, off := kB } = false) :
  (Extern.SlicesOverlaps.overlaps #[tS, tS] #[tR] #[.slice (some a) la ca, .slice (some b) lb cb]).run P w = .ok (.bool false) w := by
 have hnb : (a.block != b.block) = true := by simpa using hne
 have hnb' : (a.block == b.block) = false := by simpa using hne
 obtain ⟨tA, kA, hkA, hsa⟩ := hsa
 change Sem.run P (α := Value) (underlying tS >>= _) w = _
 by_cases h0 : la = 0 ∨ lb = 0 ∨ size = 0
 ·simp [run_underlying ht, hz, h0]
 ·cases kB with
  | zero => exact absurd rfl hkB
  | succ kB =>
    cases kA with
    | zero => exact absurd rfl hkA
    | succ kA =>
      cases hfa : w.frozen? a <;> cases hfa' : w.frozen? { block := a.block, off := kA + 1 } <;>
      simp [run_underlying ht, hz, h0, hnb, hnb', frozen, noView, viewAt, mayBeOne, stringish, shape, Sem.run, hsa, hsb, hfa, hfa', hfb, hfe]
def RetInsX {α : Type} (e : TypeId) (sz : Nat) (enc : α → List Value) (base : Nat) (v : Value) (l : List α) (w0 : World) (r : Ending) (w' : World) : Prop :=
 ∃ A c, r = .returned (.slice A l.length c) ∧ Own w' base e sz enc (.slice A l.length c) l ∧ w0.grownBy w' v.ownBlock ∧ ((Value.slice A l.length c).ownBlock = v.ownBlock ∨ (Value.slice A l.length c).ownBlock = some w0.heap.size)
def F_insert {α : Type} (n : Nat) (a : List α) (i : Int) (v : List α) : Option (List α) :=
 match v with
 | [x] => if 0 ≤ i ∧ i.toNat ≤ a.length ∧ a.length ≤ 1000000000 then some (a.take i.toNat ++ x :: a.drop i.toNat) else none
 | _ => none
theorem chunk_all {sz : Nat} (d : Value) (us : List Value) (n : Nat) (h : us.length = n * sz) : (List.range n).flatMap (fun k => (List.range sz).map fun j => us.getD (k * sz + j) d) = us := by
 induction n generalizing us with
 | zero => simp at h; subst h; rfl
 | succ n ih =>
   rw [List.range_succ_eq_map, List.flatMap_cons, List.flatMap_map]
   have h1 : (List.range sz).map (fun j => us.getD (0 * sz + j) d) = us.take sz := by
    apply List.ext_getElem
    ·simp [h, Nat.succ_mul]
    ·intro j h1 h2
     have hj : j < us.length := by simp at h2; omega
     simp [List.getElem?_eq_getElem hj]
   have h2 : (fun k => (List.range sz).map fun j => us.getD (k.succ * sz + j) d) = fun k => (List.range sz).map fun j => (us.drop sz).getD (k * sz + j) d := by
    funext k
    refine List.map_congr_left fun j _ => ?_
    rw [List.getD_eq_getElem?_getD, List.getD_eq_getElem?_getD, List.getElem?_drop, Nat.succ_mul, Nat.add_right_comm, Nat.add_comm (k * sz + j) sz]
   rw [h1, h2, ih (us.drop sz) (by rw [List.length_drop, h, Nat.succ_mul]; omega), List.take_append_drop]
theorem insert_gen {f : FuncId} {e sz : Nat} {P : Program} {E : Env} (hP : E.P = P) (hE : z9y E f) (hz : 0 < sz)
  (any : ∀ (l : List (Cel sz)) (x : Cel sz) (i base : Nat) (A : Option Addr) (c g off c1 : Nat) (w : World), Own w base e sz encC (.slice A l.length c) l → Xk w g off (encC x) → 1 ≤ c1 → (Value.slice A l.length c).ownBlock ≠ some g → i ≤ l.length → l.length ≤ 1000000000 → base ≤ w.heap.size →
    Calls P f #[.slice A l.length c, .int .i64 i, .slice (some ⟨g, off, none⟩) 1 c1] w (RetInsX e sz encC base (.slice A l.length c) (l.take i ++ x :: l.drop i) w)) {α : Type} {enc : α → AV} {n : Nat} {a v r : List α} {i : Int} (hF : F_insert n a i v = some r) :
  ConC false E f [.row 0, aI i, .sl sz (List.map enc v)] e sz (List.map enc a) e sz (List.map enc r) (.row 0) := by
 unfold F_insert at hF
 split at hF
 ·rename_i x
  split at hF
  ·rename_i hc
   obtain ⟨q0, rfl⟩ := Int.eq_ofNat_of_zero_le hc.1
   simp only [Int.toNat_natCast] at hc hF
   injection hF with hF
   subst hF
   refine ⟨hE, rfl, fun S w0 w vs v us hw0 hown hlen hre hone hvS hn hargs => ?_⟩
   have e3 : ∃ p q s, vs = #[p, q, s] := by
    obtain ⟨l⟩ := vs
    match l, hn with
    | [p, q, s], _ => exact ⟨p, q, s, rfl⟩
   obtain ⟨p, q, s, rfl⟩ := e3
   have ha := hargs (fun _ => some (some (v.ownBlock, v))) rfl
   have hp : Rep w S (fun _ => some (some (v.ownBlock, v))) (.row 0) p := ha 0 (by simp)
   have hq : Rep w S (fun _ => some (some (v.ownBlock, v))) (aI q0) q := ha 1 (by simp)
   have hs : Rep w S (fun _ => some (some (v.ownBlock, v))) (.sl sz [enc x]) s := ha 2 (by simp)
   have hpv : p = v := hp.row_inv rfl (zll (z5p hown))
   subst hpv
   rw [hq.int_inv]
   obtain ⟨A', c1, rfl, hc1, hxl, cell, hb, hrr, h1⟩ := hs.sl_inv
   obtain ⟨g, off, rfl, hSg, hgl, hcell⟩ := hb (by simp)
   have hxl0 : (enc x).cells.length = sz := hxl 0 (by simp)
   let X : Cel sz := ⟨(List.range sz).map (fun j => cell 0 j), by simp, fun u hu => by obtain ⟨j, _, rfl⟩ := List.mem_map.1 hu; exact h1 0 j⟩
   have hXg : ∀ j, j < sz → (encC X)[j]? = some (cell 0 j) := fun j hj => by simp [encC, X, hj]
   have hX : Xk w g off (encC X) := by
    have h0 := hcell 0 0 (by simp) hz
    simp only [Nat.zero_mul, Nat.add_zero] at h0
    have hobj : ∃ cur ty fr, w.heap[g]? = some (.cells cur ty fr) := by
     unfold World.cell? at h0
     split at h0
     ·rename_i cur ty fr hh; exact ⟨cur, ty, fr, hh⟩
     ·cases h0
    obtain ⟨cur, ty, fr, hh⟩ := hobj
    have hcc : ∀ j, j < sz → cur[off + j]? = some (cell 0 j) := fun j hj => by
     have := hcell 0 j (by simp) hj
     simpa [World.cell?, hh] using this
    refine ⟨cur, ty, fr, hh, ?_, fun j u hu => ?_⟩
    ·have := (Array.getElem?_eq_some_iff.1 (hcc 0 hz)).1; omega
    ·have hj : j < sz := by have := (List.getElem?_eq_some_iff.1 hu).1; simpa [encC, X] using this
     rw [hXg j hj] at hu
     rw [hcc j hj, hu]
   let l : List (Cel sz) := (List.range (List.map enc a).length).map fun k => ⟨(List.range sz).map fun j => us.getD (k * sz + j) (.bool true), by simp, fun u hu => by
    obtain ⟨j, _, rfl⟩ := List.mem_map.1 hu
    rw [List.getD_eq_getElem?_getD]
    cases hq : us[k * sz + j]? with
    | none => rfl
    | some u => exact hone u (List.mem_of_getElem? hq)⟩
   have hll : l.length = (List.map enc a).length := by simp [l]
   have hfl : l.flatMap encC = us := by
    have := chunk_all (sz := sz) (.bool true) us (List.map enc a).length hown.1
    rw [← this]
    simp [l, encC, List.flatMap_map]
   have ho : Own w w0.heap.size e sz encC p l := by
    show w.ownsRow _ e sz p l.length (l.flatMap encC)
    rw [hfl, hll]
    exact hown
   obtain ⟨A, c, hpe, hnc, _⟩ := ho.val
   subst hpe
   have hi : q0 ≤ l.length := by rw [hll, List.length_map]; exact hc.2.1
   rw [hP]
   refine (any l X q0 w0.heap.size A c g off c1 w ho hX (by simpa using hc1) (fun e => hvS g e hSg) hi (by rw [hll, List.length_map]; exact hc.2.2) hw0.size).mono ?_
   rintro ed w' ⟨A2, c2, rfl, ho2, hg2, hb2⟩
   have hrl : (List.take q0 l ++ X :: List.drop q0 l).length = (List.map enc (List.take q0 a ++ x :: List.drop q0 a)).length := by
    simp [hll]
   have hvb : ∀ b, (Value.slice A2 (List.take q0 l ++ X :: List.drop q0 l).length c2).ownBlock = some b → (Value.slice A l.length c).ownBlock = some b ∨ w.heap.size ≤ b := fun b hb => by
    rcases hb2 with h | h
    ·exact Or.inl (h ▸ hb)
    ·rw [h] at hb; injection hb with hb; exact Or.inr (by omega)
   have hown2 : w'.ownsRow w0.heap.size e sz (Value.slice A2 (List.take q0 l ++ X :: List.drop q0 l).length c2) (List.take q0 l ++ X :: List.drop q0 l).length ((List.take q0 l ++ X :: List.drop q0 l).flatMap encC) := ho2
   have hcl : ∀ y ∈ a, (enc y).cells.length = sz := fun y hy => by
    obtain ⟨k, hk, rfl⟩ := List.mem_iff_getElem.1 hy
    have := hlen k (by simpa using hk)
    simpa using this
   -- every element of the new row, with its cells
   have hel : ∀ k (hk : k < (List.take q0 l ++ X :: List.drop q0 l).length) (hk' : k < (List.take q0 a ++ x :: List.drop q0 a).length), ((List.take q0 l ++ X :: List.drop q0 l)[k] = X ∧ (List.take q0 a ++ x :: List.drop q0 a)[k] = x) ∨
     ∃ m, ∃ hm : m < l.length, ∃ hm' : m < a.length, (List.take q0 l ++ X :: List.drop q0 l)[k] = l[m] ∧ (List.take q0 a ++ x :: List.drop q0 a)[k] = a[m] := fun k hk hk' => by
    have hla : l.length = a.length := by rw [hll, List.length_map]
    by_cases h1 : k < q0
    ·refine Or.inr ⟨k, by omega, by omega, ?_, ?_⟩
     ·rw [List.getElem_append_left (by simp; omega)]; simp
     ·rw [List.getElem_append_left (by simp; omega)]; simp
    ·by_cases h2 : k = q0
     ·refine Or.inl ⟨?_, ?_⟩
      ·rw [List.getElem_append_right (by simp; omega)]
       simp only [List.length_take, show k - min q0 l.length = 0 by omega, List.getElem_cons_zero]
      ·rw [List.getElem_append_right (by simp; omega)]
       simp only [List.length_take, show k - min q0 a.length = 0 by omega, List.getElem_cons_zero]
     ·refine Or.inr ⟨k - 1, by simp at hk; omega, by simp at hk'; omega, ?_, ?_⟩
      ·rw [List.getElem_append_right (by simp; omega)]
       simp only [List.length_take, show k - min q0 l.length = (k - 1 - q0) + 1 by omega, List.getElem_cons_succ, List.getElem_drop]
       congr 1
       omega
      ·rw [List.getElem_append_right (by simp; omega)]
       simp only [List.length_take, show k - min q0 a.length = (k - 1 - q0) + 1 by omega, List.getElem_cons_succ, List.getElem_drop]
       congr 1
       omega
   refine ⟨_, _, (List.take q0 l ++ X :: List.drop q0 l).flatMap encC, rfl, hg2, by rw [← hrl]; exact hown2, fun h => (by cases h), hvb, fun k hk => ?_, fun k hk j hj => ?_, fun u hu => ?_, fun γ' hγ' => .row hγ' (fun g s e _ => by injection e with e; injection e with _ e)⟩
   ·have hk' : k < (List.take q0 a ++ x :: List.drop q0 a).length := by simpa using hk
    rw [List.getElem_map]
    rcases hel k (by rw [hrl]; exact hk) hk' with ⟨_, h⟩ | ⟨m, hm, hm', _, h⟩
    ·rw [h]; exact hxl0
    ·rw [h]; exact hcl _ (List.getElem_mem hm')
   ·have hk' : k < (List.take q0 a ++ x :: List.drop q0 a).length := by simpa using hk
    have hkl : k < (List.take q0 l ++ X :: List.drop q0 l).length := by rw [hrl]; exact hk
    have hS2 : ∀ b, S b → b < w.heap.size → w'.heap[b]? = w.heap[b]? ∧ ((S b ∨ w.heap.size ≤ b) ∧ (Value.slice A2 (List.take q0 l ++ X :: List.drop q0 l).length c2).ownBlock ≠ some b) := fun b hS hlt =>
     ⟨hg2.block b hlt (fun e => hvS b e.symm hS), Or.inl hS, fun e => by
      rcases hvb b e with h | h
      ·exact hvS b h hS
      ·omega⟩
    simp only [List.getElem_map] at hj ⊢
    rcases hel k hkl hk' with ⟨hX', hx'⟩ | ⟨m, hm, hm', hX', hx'⟩
    ·simp only [hx'] at hj ⊢
     have hj' : j < sz := by omega
     have hat := zlm (enc := encC (n := sz)) (fun y _ => y.2.1) k hkl j hj' (cell 0 j) (by rw [hX']; exact hXg j hj')
     rw [List.getD_eq_getElem?_getD, hat]
     have := hrr 0 (by simp) j hj
     exact Rep.mono this hg2.size hS2
    ·simp only [hx'] at hj ⊢
     have hj' : j < sz := by rw [hcl _ (List.getElem_mem hm')] at hj; exact hj
     have hlm : (encC l[m])[j]? = some (us.getD (m * sz + j) undef) := by
      have hlt : m * sz + j < us.length := by
       rw [hown.1, ← hll]
       have : (m + 1) * sz ≤ l.length * sz := Nat.mul_le_mul_right _ hm
       rw [Nat.succ_mul] at this
       omega
      simp [l, encC, hj', List.getElem?_eq_getElem hlt]
     have hat := zlm (enc := encC (n := sz)) (fun y _ => y.2.1) k hkl j hj' _ (by rw [hX']; exact hlm)
     rw [List.getD_eq_getElem?_getD, hat]
     have := hre m (by simpa using hm') j (by simpa using hj)
     simp only [List.getElem_map] at this
     exact Rep.mono this hg2.size hS2
   ·obtain ⟨y, _, hy⟩ := List.mem_flatMap.1 hu
    exact y.2.2 u hy
  ·cases hF
 ·cases hF
end Go.Proofs.YtjpknpjjcddnnaaGreat
