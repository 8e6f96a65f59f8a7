/-
  What sort.Slice is told of the slice types of this program. Printed by a program of this session.
-/
import Derived.Test.YtdknjfmjddlphaaSrtSlice
namespace Go.Proofs.Ytdknjfmjddlphaa
open Go Go.Fk Go.Sort Go.Shelf Go.Lib
theorem st25 : SortTy 25 28 Vt := sortTy_mk (kn := 9) false 25 111 103 104 (by kernel_rfl) (by kernel_rfl) (fun _ => by kernel_rfl) (by kernel_rfl) (fun _ => by kernel_rfl) (by kernel_rfl) (by decide) (by kernel_rfl) (by kernel_rfl) (by kernel_rfl)
  (fun args W => run_callFunc_extern Try.func111 (by kernel_rfl) (by kernel_rfl) (by kernel_rfl) (e := Extern.ReflectliteSwapper.swap false) (by kernel_rfl) args W)
theorem st37 : SortTy 37 49 Oc := sortTy_mk (kn := 9) false 25 111 103 104 (by kernel_rfl) (by kernel_rfl) (fun _ => by kernel_rfl) (by kernel_rfl) (fun _ => by kernel_rfl) (by kernel_rfl) (by decide) (by kernel_rfl) (by kernel_rfl) (by kernel_rfl)
  (fun args W => run_callFunc_extern Try.func111 (by kernel_rfl) (by kernel_rfl) (by kernel_rfl) (e := Extern.ReflectliteSwapper.swap false) (by kernel_rfl) args W)
theorem st40 : SortTy 40 24 Nm := sortTy_mk (kn := 5) true 17 107 103 104 (by kernel_rfl) (by kernel_rfl) (fun _ => by kernel_rfl) (by kernel_rfl) (fun _ => by kernel_rfl) (by kernel_rfl) (by decide) (by kernel_rfl) (by kernel_rfl) (by kernel_rfl)
  (fun args W => run_callFunc_extern Try.func107 (by kernel_rfl) (by kernel_rfl) (by kernel_rfl) (e := Extern.ReflectliteSwapper.swap true) (by kernel_rfl) args W)
end Go.Proofs.Ytdknjfmjddlphaa
