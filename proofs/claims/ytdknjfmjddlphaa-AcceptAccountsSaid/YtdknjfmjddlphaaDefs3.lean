/-
  What accept.Accepted computes. No walk.
-/
import Derived.Test.YtdknjfmjddlphaaG6
namespace Go.Proofs.Ytdknjfmjddlphaa
open Go Go.Fk

/-- where the votes of one slot begin -/
def accFrom (s : List Vt × Nat) (v : Vt) : Nat := bif decide (((s.2 : Nat) : Int) < (s.1.length : Int)) && !decide (s.1[s.2]!.slot = v.slot) then s.1.length else s.2
/-- one round: the votes that are accepted, and where those of the slot begin -/
def accStep (m : Int) (s : List Vt × Nat) (v : Vt) : List Vt × Nat := bif allowed_f m v (s.1.drop (accFrom s v)) then (s.1 ++ [v], accFrom s v) else (s.1, accFrom s v)
def accepted_f (m : Int) (parent : Nm) (l : List Vt) : List Vt := ((asc_f parent l).foldl (accStep m) ([], 0)).1
end Go.Proofs.Ytdknjfmjddlphaa
