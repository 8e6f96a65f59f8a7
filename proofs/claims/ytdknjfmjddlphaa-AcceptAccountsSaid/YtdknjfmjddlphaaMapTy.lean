/-
  The maps of the program: how their keys are told apart. Printed by a program of this session from the translation.
-/
import Derived.Test.YtdknjfmjddlphaaMapKeys
import Derived.Test.YtdknjfmjddlphaaTypes
namespace Go.Proofs.Ytdknjfmjddlphaa
open Go Go.Fk
theorem key49 : KeyTy Try.prog 49 Oc where
  check w em x := checkKey_struct (n := 9999) Try.underlying49 (List.forall_mem_cons.2 ⟨⟨by decide, fieldInt (n := 9998) Try.underlying3 (by kernel_rfl) rfl⟩, List.forall_mem_cons.2 ⟨⟨by decide, fieldInt (n := 9998) Try.underlying3 (by kernel_rfl) rfl⟩, List.forall_mem_cons.2 ⟨⟨by decide, fieldInt (n := 9998) Try.underlying3 (by kernel_rfl) rfl⟩, List.forall_mem_cons.2 ⟨⟨by decide, fieldNm (n := 9997) x.value Try.underlying24 Try.underlying5 (by kernel_rfl) (by kernel_rfl) (by kernel_rfl) (by kernel_rfl) rfl⟩, List.forall_mem_nil _⟩⟩⟩⟩)
  eq := eq49
  und := ⟨_, Try.underlying49, fun _ _ => rfl⟩
  same x := sameBits_ints (n := 9999) (cs_int_oc x)
theorem mp71 : TyMap Try.prog 71 49 22 Oc := ⟨Try.underlying71, key49, by kernel_rfl⟩
theorem key24 : KeyTy Try.prog 24 Nm := KeyTy.nm Try.underlying24 Try.underlying5 (by kernel_rfl) (by kernel_rfl) eq24
theorem mp76 : TyMap Try.prog 76 24 22 Nm := ⟨Try.underlying76, key24, by kernel_rfl⟩
theorem key28 : KeyTy Try.prog 28 Vt where
  check w em x := checkKey_struct (n := 9999) Try.underlying28 (List.forall_mem_cons.2 ⟨⟨by decide, fieldInt (n := 9998) Try.underlying3 (by kernel_rfl) rfl⟩, List.forall_mem_cons.2 ⟨⟨by decide, fieldInt (n := 9998) Try.underlying3 (by kernel_rfl) rfl⟩, List.forall_mem_cons.2 ⟨⟨by decide, fieldInt (n := 9998) Try.underlying3 (by kernel_rfl) rfl⟩, List.forall_mem_cons.2 ⟨⟨by decide, fieldInt (n := 9998) Try.underlying3 (by kernel_rfl) rfl⟩, List.forall_mem_cons.2 ⟨⟨by decide, fieldInt (n := 9998) Try.underlying3 (by kernel_rfl) rfl⟩, List.forall_mem_cons.2 ⟨⟨by decide, fieldInt (n := 9998) Try.underlying22 (by kernel_rfl) rfl⟩, List.forall_mem_cons.2 ⟨⟨by decide, fieldNm (n := 9997) x.parent Try.underlying24 Try.underlying5 (by kernel_rfl) (by kernel_rfl) (by kernel_rfl) (by kernel_rfl) rfl⟩, List.forall_mem_cons.2 ⟨⟨by decide, fieldNm (n := 9997) x.value Try.underlying24 Try.underlying5 (by kernel_rfl) (by kernel_rfl) (by kernel_rfl) (by kernel_rfl) rfl⟩, List.forall_mem_nil _⟩⟩⟩⟩⟩⟩⟩⟩)
  eq := eq28
  und := ⟨_, Try.underlying28, fun _ _ => rfl⟩
  same x := sameBits_ints (n := 9999) (cs_int_vt x)
theorem mp87 : TyMap Try.prog 87 28 3 Vt := ⟨Try.underlying87, key28, by kernel_rfl⟩
end Go.Proofs.Ytdknjfmjddlphaa
