/-
  forkledgerlaw13.CertificateStands returns true at every input, and its arguments read as they did. Conditions: none.
-/
import Derived.Test.YtdknjfmjddlphaaGC6
import Derived.Test.YtdknjfmjddlphaaZb
import Derived.Test.YtdknjfmjddlphaaZd
import Derived.Test.YtdknjfmjddlphaaZa
set_option linter.unusedVariables false
namespace Go.Proofs.Ytdknjfmjddlphaa
open Go Go.Fk Go.RowKit Go.ChangeShapes Go.WideShapes Go.ChangeAt

set_option maxRecDepth 100000 in
theorem certificateStands_lifted (os : Os) (started : os.Started) (H : Type) (enc : TypeId × Value → H) :
    ReturnsInHanded {} Try.checked os 15 .any (Rows.certificateStandsSpec.pre6 enc Try.prog Try.f15 Rows.certificateStandsRow.domain false) (Rows.certificateStandsSpec.post enc Try.prog Try.f15 false true false false) := by
  refine returnsInHanded_of_change (C := Try.checked) own started (by kernel_rfl) Try.func15
    (ChangeSpec.witness6 (enc := enc) (C := Try.checked) false ⟨#[], #[.int .i64 0, Enc.val Nm.zero, .slice none 0 0, .int .i64 0], []⟩ 8 (by kernel_rfl) (by kernel_rfl) (by kernel_rfl) (by kernel_rfl)) ?_
  intro W base args ds gs before hval0 hW hcnd _
  have hval : ∀ (j : Nat) t v, Try.f15.params[j]? = some t → args[j]? = some v → Value.okWide Try.prog W .any base t v := hval0
  have hW' := hW
  obtain ⟨p, q, hA0, hV, rfl, hfz, hnd⟩ := hW
  have hA : DataW.TrodAll enc Try.prog W 0 (fun _ => true) true Try.f15.params.toList args.toList ds p := hA0
  rw [Try.params15] at hA hval
  obtain ⟨v0, vs0, d0, ds0, p0, q0, ha, rfl, hp, h0, hA⟩ := trodAll_cons hA
  obtain ⟨v1, vs1, d1, ds1, p1, q1, rfl, rfl, hp, h1, hA⟩ := trodAll_cons hA
  obtain ⟨v2, vs2, d2, ds2, p2, q2, rfl, rfl, hp, h2, hA⟩ := trodAll_cons hA
  obtain ⟨v3, vs3, d3, ds3, p3, q3, rfl, rfl, hp, h3, hA⟩ := trodAll_cons hA
  obtain ⟨rfl, rfl, _⟩ := trodAll_nil hA
  obtain rfl : args = #[v0, v1, v2, v3] := Array.ext' ha
  obtain ⟨rfl, rfl⟩ := trodVars_none hV
  obtain ⟨x0, rfl, _, _, hw0⟩ := open_int Try.underlying22 (hval 0 22 v0 rfl rfl) h0
  obtain ⟨x1, rfl⟩ := open_name Try.underlying24 opens_nm (hval 1 24 v1 rfl rfl) h1
  obtain ⟨A2, c2, lo2, hi2, x2, rfl, hcap2, hR2⟩ := open_list Try.underlying25 opens_vt (hval 2 25 v2 rfl rfl) h2
  obtain ⟨x3, rfl, _, _, hw3⟩ := open_int Try.underlying3 (hval 3 3 v3 rfl rfl) h3
  have hlt : ∀ x ∈ p ++ [], x.block < W.heap.size := fun x hx => hW'.lt x hx
  refine Calls.mono (CertificateStands_ok hR2 hcap2) fun e W' ⟨u, he, hu, hx⟩ => ?_
  subst he hu
  exact ⟨_, rfl, post_of_ext (pa := p) (pv := []) hW' (fun _ _ _ => trodAll_mk1 (shut_bool Try.underlying4 true))
    (fun sp hsp => trodAll_stays laidOut hx sp (by intro t ht; rw [Try.params15] at ht; simp only [List.mem_cons, List.not_mem_nil, or_false] at ht; rcases ht with rfl | rfl | rfl | rfl <;> exact ⟨by kernel_rfl, by decide⟩) (fun x hx' => hlt x (by simpa using hx')) (fun x hx' => hsp x (by simpa using hx')) hA0) (fun _ _ => rfl) rfl hx (ok_one (by kernel_rfl) rfl (okWide_bool_mk Try.underlying4 true))⟩
theorem certificateStands_inPlace : (Rows.certificateStandsRow.inPlace == Try.checked.prog.inPlace 15) = true := by kernel_rfl
theorem certificateStands_unfollowed : (Rows.certificateStandsRow.unfollowed == Try.checked.prog.unfollowed 15) = true := by kernel_rfl
theorem certificateStands_recurses : (Rows.certificateStandsRow.recurses == Try.checked.prog.recurses 15) = true := by kernel_rfl
theorem certificateStands_vnamed : (Rows.certificateStandsRow.named == Try.checked.prog.varsNamed 15) = true := by kernel_rfl
theorem certificateStands_facts : joinedFacts Try.checked.prog 15 Try.f15 Rows.certificateStandsSpec Rows.certificateStandsRow = true :=
  joined_of fact_laid fact_rowed fact_stops fact_knobs fact_heard fact_enter fact_lifts fact_make fact_keys (by kernel_rfl) (by kernel_rfl) (by kernel_rfl) (by kernel_rfl) (by kernel_rfl) certificateStands_inPlace certificateStands_unfollowed certificateStands_recurses certificateStands_vnamed (by kernel_rfl) (by kernel_rfl) (by kernel_rfl) (by kernel_rfl) (by kernel_rfl) (by kernel_rfl)
theorem certificateStands_named : Try.checked.prog.funcNamed Rows.certificateStandsRow.func = some 15 := by kernel_rfl
theorem certificateStands_inst : Try.f15.isInstance Try.checked.prog Rows.certificateStandsRow.origin Rows.certificateStandsRow.targs := of_decide_eq_true (by kernel_rfl)
theorem certificateStands_wrap : Try.f15.isWrapper Try.checked.prog Rows.certificateStandsRow.wrapper Rows.certificateStandsRow.mainSum := by unfold Func.isWrapper; rw [if_neg (by decide +kernel)]; exact ⟨rfl, rfl⟩
theorem certificateStands_holds : Rows.CertificateStandsSaid :=
  OpenClaim.holds_of_wide 15 Try.f15 rfl rfl rfl rfl rfl rfl rfl ⟨rfl, rfl, rfl, rfl, rfl⟩ rfl rfl rfl rfl rfl certificateStands_named Try.func15 certificateStands_facts
    certificateStands_inst certificateStands_wrap
    (fun os started H enc _ => certificateStands_lifted os started H enc)
end Go.Proofs.Ytdknjfmjddlphaa
