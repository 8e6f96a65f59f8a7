/-
  Layer 12: accept.Accepted at the two slices that the law's own check is awake at. No walk.
-/
import Derived.Test.YtdknjfmjddlphaaZd
import Derived.Test.YtdknjfmjddlphaaZa
namespace Go.Proofs.Ytdknjfmjddlphaa
open Go Go.Fk

theorem Accepted_at {m : Int} {parent : Nm} {A_l : Option Addr} {c_l lo_l hi_l : Nat} {l : List Vt} {w : World} (k : Nat) (hk : (accepted_f m parent l).length = k) (hR : Rd w lo_l hi_l A_l l) (hl : l.length ≤ 1000000) :
    Gives Try.prog 18 #[(.int .i64 m), (Enc.val (parent : Nm)), (.slice A_l l.length c_l)] w fun u w' => (∃ A c, u = .slice A k c) ∧ Ext w w' :=
  (Accepted_ok hR hl).mono fun _ _ ⟨⟨A, c, _, _, h, _, _⟩, hx⟩ => ⟨⟨A, c, by rw [h, hk]⟩, hx⟩
def vA : Vt := ⟨1, 0, 0, 1, 0, 0, Nm.zero, (⟨1, 0, 0, 0, 0, 0, 0, 0⟩ : Nm)⟩
def vB : Vt := ⟨2, 0, 0, 1, 1, 0, Nm.zero, (⟨1, 0, 0, 0, 0, 0, 0, 0⟩ : Nm)⟩
theorem acc_lit0 : (accepted_f 3 (Nm.zero : Nm) [vB]).length = 0 := by decide +kernel
theorem acc_lit2 : (accepted_f 3 (Nm.zero : Nm) [vB, vA]).length = 2 := by decide +kernel
theorem acc_call0 {b t : Nat} {w : World} (hB : Box w b t (Enc.cells (⟨2, 0, 0, 1, 1, 0, Nm.zero, (⟨1, 0, 0, 0, 0, 0, 0, 0⟩ : Nm)⟩ : Vt))) :
    Gives Try.prog 18 #[(.int .i64 3), (Enc.val (Nm.zero : Nm)), (.slice (some ⟨b, 0, none⟩) 1 1)] w fun u w' => (∃ A c, u = .slice A 0 c) ∧ Ext w w' :=
  Accepted_at (l := [vB]) 0 acc_lit0 (rd_box (a := vB) hB) (by simp)
theorem acc_call2 {A : Option Addr} {lo hi c : Nat} {w : World} (hR : Rd w lo hi A ([(⟨2, 0, 0, 1, 1, 0, Nm.zero, (⟨1, 0, 0, 0, 0, 0, 0, 0⟩ : Nm)⟩ : Vt), (⟨1, 0, 0, 1, 0, 0, Nm.zero, (⟨1, 0, 0, 0, 0, 0, 0, 0⟩ : Nm)⟩ : Vt)] : List Vt)) :
    Gives Try.prog 18 #[(.int .i64 3), (Enc.val (Nm.zero : Nm)), (.slice A 2 c)] w fun u w' => (∃ A c, u = .slice A 2 c) ∧ Ext w w' :=
  Accepted_at (l := [vB, vA]) 2 acc_lit2 hR (by simp)
end Go.Proofs.Ytdknjfmjddlphaa
