/-
  forkledgerlaw13.CertificateSheds returns true at every input, and its arguments read as they did. Conditions: none.
-/
import Derived.Test.YtdknjfmjddlphaaGC8
import Derived.Test.YtdknjfmjddlphaaZb
import Derived.Test.YtdknjfmjddlphaaZd
import Derived.Test.YtdknjfmjddlphaaZa
set_option linter.unusedVariables false
namespace Go.Proofs.Ytdknjfmjddlphaa
open Go Go.Fk Go.RowKit Go.ChangeShapes Go.WideShapes Go.ChangeAt

set_option maxRecDepth 100000 in
theorem certificateSheds_lifted (os : Os) (started : os.Started) (H : Type) (enc : TypeId × Value → H) :
    ReturnsInHanded {} Try.checked os 16 .any (Rows.certificateShedsSpec.pre6 enc Try.prog Try.f16 Rows.certificateShedsRow.domain false) (Rows.certificateShedsSpec.post enc Try.prog Try.f16 false true false false) := by
  refine returnsInHanded_of_change (C := Try.checked) own started (by kernel_rfl) Try.func16
    (ChangeSpec.witness6 (enc := enc) (C := Try.checked) false ⟨#[], #[.int .i64 0, Enc.val Nm.zero, .slice none 0 0, .slice none 0 0, .int .i64 0], []⟩ 8 (by kernel_rfl) (by kernel_rfl) (by kernel_rfl) (by kernel_rfl)) ?_
  intro W base args ds gs before hval0 hW hcnd _
  have hval : ∀ (j : Nat) t v, Try.f16.params[j]? = some t → args[j]? = some v → Value.okWide Try.prog W .any base t v := hval0
  have hW' := hW
  obtain ⟨p, q, hA0, hV, rfl, hfz, hnd⟩ := hW
  have hA : DataW.TrodAll enc Try.prog W 0 (fun _ => true) true Try.f16.params.toList args.toList ds p := hA0
  rw [Try.params16] at hA hval
  obtain ⟨v0, vs0, d0, ds0, p0, q0, ha, rfl, hp, h0, hA⟩ := trodAll_cons hA
  obtain ⟨v1, vs1, d1, ds1, p1, q1, rfl, rfl, hp, h1, hA⟩ := trodAll_cons hA
  obtain ⟨v2, vs2, d2, ds2, p2, q2, rfl, rfl, hp, h2, hA⟩ := trodAll_cons hA
  obtain ⟨v3, vs3, d3, ds3, p3, q3, rfl, rfl, hp, h3, hA⟩ := trodAll_cons hA
  obtain ⟨v4, vs4, d4, ds4, p4, q4, rfl, rfl, hp, h4, hA⟩ := trodAll_cons hA
  obtain ⟨rfl, rfl, _⟩ := trodAll_nil hA
  obtain rfl : args = #[v0, v1, v2, v3, v4] := Array.ext' ha
  obtain ⟨rfl, rfl⟩ := trodVars_none hV
  obtain ⟨x0, rfl, _, _, hw0⟩ := open_int Try.underlying22 (hval 0 22 v0 rfl rfl) h0
  obtain ⟨x1, rfl⟩ := open_name Try.underlying24 opens_nm (hval 1 24 v1 rfl rfl) h1
  obtain ⟨A2, c2, lo2, hi2, x2, rfl, hcap2, hR2⟩ := open_list Try.underlying25 opens_vt (hval 2 25 v2 rfl rfl) h2
  obtain ⟨A3, c3, lo3, hi3, x3, rfl, hcap3, hR3⟩ := open_list Try.underlying25 opens_vt (hval 3 25 v3 rfl rfl) h3
  obtain ⟨x4, rfl, _, _, hw4⟩ := open_int Try.underlying3 (hval 4 3 v4 rfl rfl) h4
  have hlt : ∀ x ∈ p ++ [], x.block < W.heap.size := fun x hx => hW'.lt x hx
  refine Calls.mono (CertificateSheds_ok hR2 hcap2 hR3 hcap3) fun e W' ⟨u, he, hu, hx⟩ => ?_
  subst he hu
  exact ⟨_, rfl, post_of_ext (pa := p) (pv := []) hW' (fun _ _ _ => trodAll_mk1 (shut_bool Try.underlying4 true))
    (fun sp hsp => trodAll_stays laidOut hx sp (by intro t ht; rw [Try.params16] at ht; simp only [List.mem_cons, List.not_mem_nil, or_false] at ht; rcases ht with rfl | rfl | rfl | rfl | rfl <;> exact ⟨by kernel_rfl, by decide⟩) (fun x hx' => hlt x (by simpa using hx')) (fun x hx' => hsp x (by simpa using hx')) hA0) (fun _ _ => rfl) rfl hx (ok_one (by kernel_rfl) rfl (okWide_bool_mk Try.underlying4 true))⟩
theorem certificateSheds_inPlace : (Rows.certificateShedsRow.inPlace == Try.checked.prog.inPlace 16) = true := by kernel_rfl
theorem certificateSheds_unfollowed : (Rows.certificateShedsRow.unfollowed == Try.checked.prog.unfollowed 16) = true := by kernel_rfl
theorem certificateSheds_recurses : (Rows.certificateShedsRow.recurses == Try.checked.prog.recurses 16) = true := by kernel_rfl
theorem certificateSheds_vnamed : (Rows.certificateShedsRow.named == Try.checked.prog.varsNamed 16) = true := by kernel_rfl
theorem certificateSheds_facts : joinedFacts Try.checked.prog 16 Try.f16 Rows.certificateShedsSpec Rows.certificateShedsRow = true :=
  joined_of fact_laid fact_rowed fact_stops fact_knobs fact_heard fact_enter fact_lifts fact_make fact_keys (by kernel_rfl) (by kernel_rfl) (by kernel_rfl) (by kernel_rfl) (by kernel_rfl) certificateSheds_inPlace certificateSheds_unfollowed certificateSheds_recurses certificateSheds_vnamed (by kernel_rfl) (by kernel_rfl) (by kernel_rfl) (by kernel_rfl) (by kernel_rfl) (by kernel_rfl)
theorem certificateSheds_named : Try.checked.prog.funcNamed Rows.certificateShedsRow.func = some 16 := by kernel_rfl
theorem certificateSheds_inst : Try.f16.isInstance Try.checked.prog Rows.certificateShedsRow.origin Rows.certificateShedsRow.targs := of_decide_eq_true (by kernel_rfl)
theorem certificateSheds_wrap : Try.f16.isWrapper Try.checked.prog Rows.certificateShedsRow.wrapper Rows.certificateShedsRow.mainSum := by unfold Func.isWrapper; rw [if_neg (by decide +kernel)]; exact ⟨rfl, rfl⟩
theorem certificateSheds_holds : Rows.CertificateShedsSaid :=
  OpenClaim.holds_of_wide 16 Try.f16 rfl rfl rfl rfl rfl rfl rfl ⟨rfl, rfl, rfl, rfl, rfl⟩ rfl rfl rfl rfl rfl certificateSheds_named Try.func16 certificateSheds_facts
    certificateSheds_inst certificateSheds_wrap
    (fun os started H enc _ => certificateSheds_lifted os started H enc)
end Go.Proofs.Ytdknjfmjddlphaa
