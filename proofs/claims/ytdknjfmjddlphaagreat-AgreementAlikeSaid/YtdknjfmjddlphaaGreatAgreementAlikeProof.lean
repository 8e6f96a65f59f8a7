/-
  forkledgerlaw16.AgreementAlike returns true at every input, and its arguments read as they did. Conditions: none.
-/
import Derived.Test.YtdknjfmjddlphaaGreatSAgreementAlike5
set_option linter.unusedVariables false
namespace Go.Proofs.YtdknjfmjddlphaaGreat
open Go Go.Fk Go.RowKit Go.ChangeShapes Go.WideShapes Go.ChangeAt

set_option maxRecDepth 100000 in
theorem agreementAlike_lifted (os : Os) (started : os.Started) (H : Type) (enc : TypeId × Value → H) :
    ReturnsInHanded {} Tryz.checked os 10 .any (Rows.agreementAlikeSpec.pre6 enc Tryz.prog Tryz.f10 Rows.agreementAlikeRow.domain false) (Rows.agreementAlikeSpec.post enc Tryz.prog Tryz.f10 false true false false) := by
  refine returnsInHanded_of_change (C := Tryz.checked) own started (by kernel_rfl) Tryz.func10
    (ChangeSpec.witness6 (enc := enc) (C := Tryz.checked) false ⟨#[], #[.int .i64 0, Enc.val Nm.zero, .slice none 0 0, .int .i64 0, .int .i64 0, .int .i64 0, .slice none 0 0, .bool false], []⟩ 8 (by kernel_rfl) (by kernel_rfl) (by kernel_rfl) (by kernel_rfl)) ?_
  intro W base args ds gs before hval0 hW hcnd _
  have hval : ∀ (j : Nat) t v, Tryz.f10.params[j]? = some t → args[j]? = some v → Value.okWide Tryz.prog W .any base t v := hval0
  have hW' := hW
  obtain ⟨p, q, hA0, hV, rfl, hfz, hnd⟩ := hW
  have hA : DataW.TrodAll enc Tryz.prog W 0 (fun _ => true) true Tryz.f10.params.toList args.toList ds p := hA0
  rw [Tryz.params10] at hA hval
  obtain ⟨v0, vs0, d0, ds0, p0, q0, ha, rfl, hp, h0, hA⟩ := trodAll_cons hA
  obtain ⟨v1, vs1, d1, ds1, p1, q1, rfl, rfl, hp, h1, hA⟩ := trodAll_cons hA
  obtain ⟨v2, vs2, d2, ds2, p2, q2, rfl, rfl, hp, h2, hA⟩ := trodAll_cons hA
  obtain ⟨v3, vs3, d3, ds3, p3, q3, rfl, rfl, hp, h3, hA⟩ := trodAll_cons hA
  obtain ⟨v4, vs4, d4, ds4, p4, q4, rfl, rfl, hp, h4, hA⟩ := trodAll_cons hA
  obtain ⟨v5, vs5, d5, ds5, p5, q5, rfl, rfl, hp, h5, hA⟩ := trodAll_cons hA
  obtain ⟨v6, vs6, d6, ds6, p6, q6, rfl, rfl, hp, h6, hA⟩ := trodAll_cons hA
  obtain ⟨v7, vs7, d7, ds7, p7, q7, rfl, rfl, hp, h7, hA⟩ := trodAll_cons hA
  obtain ⟨rfl, rfl, _⟩ := trodAll_nil hA
  obtain rfl : args = #[v0, v1, v2, v3, v4, v5, v6, v7] := Array.ext' ha
  obtain ⟨rfl, rfl⟩ := trodVars_none hV
  obtain ⟨x0, rfl, _, _, hw0⟩ := open_int Tryz.underlying22 (hval 0 22 v0 rfl rfl) h0
  obtain ⟨x1, rfl⟩ := open_name Tryz.underlying24 opens_nm (hval 1 24 v1 rfl rfl) h1
  obtain ⟨A2, c2, lo2, hi2, x2, rfl, hcap2, hR2⟩ := open_list Tryz.underlying25 opens_vt (hval 2 25 v2 rfl rfl) h2
  obtain ⟨x3, rfl, _, _, hw3⟩ := open_int Tryz.underlying3 (hval 3 3 v3 rfl rfl) h3
  obtain ⟨x4, rfl, _, _, hw4⟩ := open_int Tryz.underlying3 (hval 4 3 v4 rfl rfl) h4
  obtain ⟨x5, rfl, _, _, hw5⟩ := open_int Tryz.underlying3 (hval 5 3 v5 rfl rfl) h5
  obtain ⟨A6, c6, lo6, hi6, x6, rfl, hcap6, hR6⟩ := open_list Tryz.underlying28 opens_nm (hval 6 28 v6 rfl rfl) h6
  obtain ⟨x7, rfl, _, _⟩ := open_bool Tryz.underlying4 (hval 7 4 v7 rfl rfl) h7
  have hlt : ∀ x ∈ p ++ [], x.block < W.heap.size := fun x hx => hW'.lt x hx
  refine Calls.mono (AgreementAlike_ok hR2 hcap2 hR6 hcap6) fun e W' ⟨u, he, hu, hx⟩ => ?_
  subst he hu
  exact ⟨_, rfl, post_of_ext (pa := p) (pv := []) hW' (fun _ _ _ => trodAll_mk1 (shut_bool Tryz.underlying4 true))
    (fun sp hsp => trodAll_stays laidOut hx sp (by intro t ht; rw [Tryz.params10] at ht; simp only [List.mem_cons, List.not_mem_nil, or_false] at ht; rcases ht with rfl | rfl | rfl | rfl | rfl | rfl | rfl | rfl <;> exact ⟨by kernel_rfl, by decide⟩) (fun x hx' => hlt x (by simpa using hx')) (fun x hx' => hsp x (by simpa using hx')) hA0) (fun _ _ => rfl) rfl hx (ok_one (by kernel_rfl) rfl (okWide_bool_mk Tryz.underlying4 true))⟩
theorem agreementAlike_inPlace : (Rows.agreementAlikeRow.inPlace == Tryz.checked.prog.inPlace 10) = true := by kernel_rfl
theorem agreementAlike_unfollowed : (Rows.agreementAlikeRow.unfollowed == Tryz.checked.prog.unfollowed 10) = true := by kernel_rfl
theorem agreementAlike_recurses : (Rows.agreementAlikeRow.recurses == Tryz.checked.prog.recurses 10) = true := by kernel_rfl
theorem agreementAlike_vnamed : (Rows.agreementAlikeRow.named == Tryz.checked.prog.varsNamed 10) = true := by kernel_rfl
theorem agreementAlike_facts : joinedFacts Tryz.checked.prog 10 Tryz.f10 Rows.agreementAlikeSpec Rows.agreementAlikeRow = true :=
  joined_of fact_laid fact_rowed fact_stops fact_knobs fact_heard fact_enter fact_lifts fact_make fact_keys (by kernel_rfl) (by kernel_rfl) (by kernel_rfl) (by kernel_rfl) (by kernel_rfl) agreementAlike_inPlace agreementAlike_unfollowed agreementAlike_recurses agreementAlike_vnamed (by kernel_rfl) (by kernel_rfl) (by kernel_rfl) (by kernel_rfl) (by kernel_rfl) (by kernel_rfl)
theorem agreementAlike_named : Tryz.checked.prog.funcNamed Rows.agreementAlikeRow.func = some 10 := by kernel_rfl
theorem agreementAlike_inst : Tryz.f10.isInstance Tryz.checked.prog Rows.agreementAlikeRow.origin Rows.agreementAlikeRow.targs := of_decide_eq_true (by kernel_rfl)
theorem agreementAlike_wrap : Tryz.f10.isWrapper Tryz.checked.prog Rows.agreementAlikeRow.wrapper Rows.agreementAlikeRow.mainSum := by unfold Func.isWrapper; rw [if_neg (by decide +kernel)]; exact ⟨rfl, rfl⟩
theorem agreementAlike_holds : Rows.AgreementAlikeSaid :=
  OpenClaim.holds_of_wide 10 Tryz.f10 rfl rfl rfl rfl rfl rfl rfl ⟨rfl, rfl, rfl, rfl, rfl⟩ rfl rfl rfl rfl rfl agreementAlike_named Tryz.func10 agreementAlike_facts
    agreementAlike_inst agreementAlike_wrap
    (fun os started H enc _ => agreementAlike_lifted os started H enc)
end Go.Proofs.YtdknjfmjddlphaaGreat
