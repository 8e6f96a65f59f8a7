/-
  The types of arguments, for the rows of this program's laws.
-/
import Derived.Test.YtdknjfmjddlphaaOpen
import Derived.Test.YtdknjfmjddlphaaRows
namespace Go.Proofs.Ytdknjfmjddlphaa
open Go Go.Fk Go.RowKit Go.ChangeShapes Go.WideShapes Go.ChangeAt
theorem own : ownKnob Try.prog.godebug = none := by kernel_rfl
theorem laidOut : laidOutB Try.prog = true := by kernel_rfl
theorem opens_int : Opens Try.prog 3 Int := Opens.int Try.underlying3 (by kernel_rfl)
theorem opens_mask : Opens Try.prog 22 Int := Opens.int Try.underlying22 (by kernel_rfl)
theorem opens_nm : Opens Try.prog 24 Nm := Opens.nm Try.underlying24 Try.underlying5 (by kernel_rfl) (by kernel_rfl)
theorem opens_vt : Opens Try.prog 28 Vt := Opens.vt Try.underlying28 (by kernel_rfl) opens_int opens_mask opens_nm ⟨rfl, rfl⟩ ⟨rfl, rfl⟩ ⟨rfl, rfl⟩ ⟨rfl, rfl⟩ ⟨rfl, rfl⟩ ⟨rfl, rfl⟩ ⟨rfl, rfl⟩ ⟨rfl, rfl⟩
theorem name_under : ∃ e, Try.prog.underlying 24 = some (.array 8 e) := ⟨_, Try.underlying24⟩
end Go.Proofs.Ytdknjfmjddlphaa
