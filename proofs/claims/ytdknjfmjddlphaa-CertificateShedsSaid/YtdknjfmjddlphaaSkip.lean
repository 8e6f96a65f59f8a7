/-
  An operation whose guard is known not to be set. No program in sight.
-/
import Derived.Test.YtdknjfmjddlphaaZa
namespace Go.Fk
open Go
section
variable {P : Program} {N : Nat} {ops : Array Oper} {Q : Exit → Fr → World → Prop} {rest : List Oper} {o : Oper} {f : Fr} {w : World}
theorem L.skipF (hg : Region.wanted o (yieldF ops f) = false) (k : L P N ops Q rest (updo f o.dst undef) w) : L P N ops Q (o :: rest) f w :=
  L.guard (R := fun u w2 => u = undef ∧ w2 = w) hg (fun h => nomatch h) (fun _ => ⟨rfl, rfl⟩) fun _ _ ⟨h1, h2⟩ => by subst h1 h2; exact k
theorem L.callT {v : Value} (hg : Region.wanted o (yieldF ops f) = true) (h : OpS P o f w fun u w' => u = v ∧ Ext w w') (k : ∀ w', Ext w w' → L P N ops Q rest (updo f o.dst v) w') : L P N ops Q (o :: rest) f w :=
  L.guard (R := fun u w' => u = v ∧ Ext w w') hg (fun _ => h) (fun h => nomatch h) fun _ w' ⟨e1, hx⟩ => by subst e1; exact k w' hx
theorem op_neqb {t ty : TypeId} {x y : Operand} {a b : Bool} (ho : o.op = .binOp .neq t x y ty) (hx : evalF f x = .bool a) (hy : evalF f y = .bool b) (hu : P.underlying t = some .bool) : (execOp (evalF f) o).run P w = .ok (.value (.bool (!(a == b)))) w := by
  unfold execOp
  have h := run_equalIn_bool' (P := P) w 9999 t a b hu
  simp only [ho, hx, hy, Sem.run_bind, eqGuard_at_bool, Sem.run_pure, Result.andThen_ok, binOp, Op.equal, Op.maxDepth]
  rw [h]
  rfl
/-- a slice where the guard is set -/
def Sp.gsl {α : Type} [Enc α] (g : Bool) (l : List α) : Sp := ⟨fun u w => (g = true → SlR w u l) ∧ (g = false → u = undef), fun _ _ _ h hx => ⟨fun hg => (h.1 hg).ext hx, h.2⟩⟩
theorem D.guardsl {α : Type} [Enc α] {g : Bool} {l : List α} (hw : Region.wanted o (yieldF ops f) = g) (h : g = true → OpS P o f w fun u w' => SlR w' u l ∧ Ext w w') :
    (Region.wanted o (yieldF ops f) = true → OpS P o f w fun u w'' => (Sp.gsl g l).p u w'' ∧ Ext w w'') ∧ (Region.wanted o (yieldF ops f) = false → (Sp.gsl g l).p undef w) :=
  ⟨fun hh => by
    have hg : g = true := hw.symm.trans hh
    exact (h hg).mono fun u w'' h1 => ⟨⟨fun _ => h1.1, fun h0 => (by rw [hg] at h0; cases h0)⟩, h1.2⟩,
   fun hh => by
    have hg : g = false := hw.symm.trans hh
    exact ⟨fun h0 => (by rw [hg] at h0; cases h0), fun _ => rfl⟩⟩
end
end Go.Fk
