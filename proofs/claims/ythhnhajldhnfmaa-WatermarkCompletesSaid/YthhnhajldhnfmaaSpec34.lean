/- Plain functions: what layers 34 and 35 (program and reference) compute, on plain data. No program in sight. -/
import Derived.Test.YthhnhajldhnfmaaBase
namespace Go.Proofs.Ythhnhajldhnfmaa
open Go.RowKit

theorem drop_cons {α : Type} (l : List α) (k : Nat) (h : k < l.length) : l.drop k = l[k] :: l.drop (k + 1) := List.drop_eq_getElem_cons h

def sqLoop : Int → List Int → Int
  | _, [] => 0
  | last, n :: r => if n < 0 ∨ 1099511627776 < n then 2 else if n ≤ last then 14 else sqLoop n r
def sqCheck (t : Trk) : Int :=
  if t.next < 0 ∨ 1099511627777 < t.next then 2 else if 256 < t.beyond.length then 5 else sqLoop t.next t.beyond
def hasB (t : Trk) (seq : Int) : Bool := if seq < t.next then decide (0 ≤ seq) else t.beyond.contains seq

def ptValid (p : Pt) : Bool := decide (0 ≤ p.seq) && (decide (p.seq ≤ 1099511627777) && (decide (0 ≤ p.time) && decide (p.time ≤ 1099511627776)))
def implies (a b : Pt) : Bool := decide (a.seq ≤ b.seq) && decide (b.time ≤ a.time)
def ascLoop : Pt → List Pt → Int
  | _, [] => 0
  | last, p :: r => if ptValid p = false then 2 else if p.seq ≤ last.seq ∨ p.time ≤ last.time then 14 else ascLoop p r
def asc (t : Trk) (last : Pt) : Int :=
  if sqCheck t ≠ 0 then sqCheck t else if t.mark < -1 ∨ 1099511627776 < t.mark then 2 else if 256 < t.points.length then 5 else ascLoop last t.points
def puCheck (t : Trk) : Int := asc t ⟨t.next, t.mark⟩
def latest (mark : Int) (l : List Pt) (seq : Int) : Int := (l.filter fun p => decide (p.seq ≤ seq)).foldl (fun m p => max m p.time) mark

end Go.Proofs.Ythhnhajldhnfmaa
