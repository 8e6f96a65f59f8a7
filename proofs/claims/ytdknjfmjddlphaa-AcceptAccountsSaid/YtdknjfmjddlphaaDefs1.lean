/-
  What some functions of the program compute, where the printer does not write it itself. No walk.
-/
import Derived.Test.YtdknjfmjddlphaaG2
namespace Go.Proofs.Ytdknjfmjddlphaa
open Go Go.Fk

/-- the ids in a mask, ascending -/
def ids_f (m : Int) : List Int := ((List.range 10).map fun (k : Nat) => (k : Int)).filter fun i => has_f m i
/-- the support is a set of exactly q members, each with a vote that fits -/
def supported_f (m q : Int) (v : Vt) (l : List Vt) (p : Vt → Bool) : Bool :=
  bif (!decide ((iandn v.support m) = 0)) || (!decide ((size_f v.support) = q)) then false else (ids_f v.support).all fun i => l.any fun x => supported1_f x i p
end Go.Proofs.Ytdknjfmjddlphaa
