/-
  forkledgerlaw16.AgreementAllowed returns true at every input, and its arguments read as they did. Conditions: none.
-/
import Derived.Test.YtdknjfmjddlphaaGreatSAgreementAllowed6
set_option linter.unusedVariables false
namespace Go.Proofs.YtdknjfmjddlphaaGreat
open Go Go.Fk Go.RowKit Go.ChangeShapes Go.WideShapes Go.ChangeAt

set_option maxRecDepth 100000 in
theorem agreementAllowed_lifted (os : Os) (started : os.Started) (H : Type) (enc : TypeId × Value → H) :
    ReturnsInHanded {} Tryz.checked os 11 .any (Rows.agreementAllowedSpec.pre6 enc Tryz.prog Tryz.f11 Rows.agreementAllowedRow.domain false) (Rows.agreementAllowedSpec.post enc Tryz.prog Tryz.f11 false true false false) := by
  refine returnsInHanded_of_change (C := Tryz.checked) own started (by kernel_rfl) Tryz.func11
    (ChangeSpec.witness6 (enc := enc) (C := Tryz.checked) false ⟨#[], #[.int .i64 0, Enc.val Nm.zero, .slice none 0 0, .int .i64 0, .int .i64 0, .slice none 0 0, .bool false], []⟩ 8 (by kernel_rfl) (by kernel_rfl) (by kernel_rfl) (by kernel_rfl)) ?_
  intro W base args ds gs before hval0 hW hcnd _
  have hval : ∀ (j : Nat) t v, Tryz.f11.params[j]? = some t → args[j]? = some v → Value.okWide Tryz.prog W .any base t v := hval0
  have hW' := hW
  obtain ⟨p, q, hA0, hV, rfl, hfz, hnd⟩ := hW
  have hA : DataW.TrodAll enc Tryz.prog W 0 (fun _ => true) true Tryz.f11.params.toList args.toList ds p := hA0
  rw [Tryz.params11] at hA hval
  obtain ⟨v0, vs0, d0, ds0, p0, q0, ha, rfl, hp, h0, hA⟩ := trodAll_cons hA
  obtain ⟨v1, vs1, d1, ds1, p1, q1, rfl, rfl, hp, h1, hA⟩ := trodAll_cons hA
  obtain ⟨v2, vs2, d2, ds2, p2, q2, rfl, rfl, hp, h2, hA⟩ := trodAll_cons hA
  obtain ⟨v3, vs3, d3, ds3, p3, q3, rfl, rfl, hp, h3, hA⟩ := trodAll_cons hA
  obtain ⟨v4, vs4, d4, ds4, p4, q4, rfl, rfl, hp, h4, hA⟩ := trodAll_cons hA
  obtain ⟨v5, vs5, d5, ds5, p5, q5, rfl, rfl, hp, h5, hA⟩ := trodAll_cons hA
  obtain ⟨v6, vs6, d6, ds6, p6, q6, rfl, rfl, hp, h6, hA⟩ := trodAll_cons hA
  obtain ⟨rfl, rfl, _⟩ := trodAll_nil hA
  obtain rfl : args = #[v0, v1, v2, v3, v4, v5, v6] := Array.ext' ha
  obtain ⟨rfl, rfl⟩ := trodVars_none hV
  obtain ⟨x0, rfl, _, _, hw0⟩ := open_int Tryz.underlying22 (hval 0 22 v0 rfl rfl) h0
  obtain ⟨x1, rfl⟩ := open_name Tryz.underlying24 opens_nm (hval 1 24 v1 rfl rfl) h1
  obtain ⟨A2, c2, lo2, hi2, x2, rfl, hcap2, hR2⟩ := open_list Tryz.underlying25 opens_vt (hval 2 25 v2 rfl rfl) h2
  obtain ⟨x3, rfl, _, _, hw3⟩ := open_int Tryz.underlying3 (hval 3 3 v3 rfl rfl) h3
  obtain ⟨x4, rfl, _, _, hw4⟩ := open_int Tryz.underlying3 (hval 4 3 v4 rfl rfl) h4
  obtain ⟨A5, c5, lo5, hi5, x5, rfl, hcap5, hR5⟩ := open_list Tryz.underlying28 opens_nm (hval 5 28 v5 rfl rfl) h5
  obtain ⟨x6, rfl, _, _⟩ := open_bool Tryz.underlying4 (hval 6 4 v6 rfl rfl) h6
  have hlt : ∀ x ∈ p ++ [], x.block < W.heap.size := fun x hx => hW'.lt x hx
  refine Calls.mono (AgreementAllowed_ok hR2 hcap2 hR5 hcap5) fun e W' ⟨u, he, hu, hx⟩ => ?_
  subst he hu
  exact ⟨_, rfl, post_of_ext (pa := p) (pv := []) hW' (fun _ _ _ => trodAll_mk1 (shut_bool Tryz.underlying4 true))
    (fun sp hsp => trodAll_stays laidOut hx sp (by intro t ht; rw [Tryz.params11] at ht; simp only [List.mem_cons, List.not_mem_nil, or_false] at ht; rcases ht with rfl | rfl | rfl | rfl | rfl | rfl | rfl <;> exact ⟨by kernel_rfl, by decide⟩) (fun x hx' => hlt x (by simpa using hx')) (fun x hx' => hsp x (by simpa using hx')) hA0) (fun _ _ => rfl) rfl hx (ok_one (by kernel_rfl) rfl (okWide_bool_mk Tryz.underlying4 true))⟩
theorem agreementAllowed_inPlace : (Rows.agreementAllowedRow.inPlace == Tryz.checked.prog.inPlace 11) = true := by kernel_rfl
theorem agreementAllowed_unfollowed : (Rows.agreementAllowedRow.unfollowed == Tryz.checked.prog.unfollowed 11) = true := by kernel_rfl
theorem agreementAllowed_recurses : (Rows.agreementAllowedRow.recurses == Tryz.checked.prog.recurses 11) = true := by kernel_rfl
theorem agreementAllowed_vnamed : (Rows.agreementAllowedRow.named == Tryz.checked.prog.varsNamed 11) = true := by kernel_rfl
theorem agreementAllowed_facts : joinedFacts Tryz.checked.prog 11 Tryz.f11 Rows.agreementAllowedSpec Rows.agreementAllowedRow = true :=
  joined_of fact_laid fact_rowed fact_stops fact_knobs fact_heard fact_enter fact_lifts fact_make fact_keys (by kernel_rfl) (by kernel_rfl) (by kernel_rfl) (by kernel_rfl) (by kernel_rfl) agreementAllowed_inPlace agreementAllowed_unfollowed agreementAllowed_recurses agreementAllowed_vnamed (by kernel_rfl) (by kernel_rfl) (by kernel_rfl) (by kernel_rfl) (by kernel_rfl) (by kernel_rfl)
theorem agreementAllowed_named : Tryz.checked.prog.funcNamed Rows.agreementAllowedRow.func = some 11 := by kernel_rfl
theorem agreementAllowed_inst : Tryz.f11.isInstance Tryz.checked.prog Rows.agreementAllowedRow.origin Rows.agreementAllowedRow.targs := of_decide_eq_true (by kernel_rfl)
theorem agreementAllowed_wrap : Tryz.f11.isWrapper Tryz.checked.prog Rows.agreementAllowedRow.wrapper Rows.agreementAllowedRow.mainSum := by unfold Func.isWrapper; rw [if_neg (by decide +kernel)]; exact ⟨rfl, rfl⟩
theorem agreementAllowed_holds : Rows.AgreementAllowedSaid :=
  OpenClaim.holds_of_wide 11 Tryz.f11 rfl rfl rfl rfl rfl rfl rfl ⟨rfl, rfl, rfl, rfl, rfl⟩ rfl rfl rfl rfl rfl agreementAllowed_named Tryz.func11 agreementAllowed_facts
    agreementAllowed_inst agreementAllowed_wrap
    (fun os started H enc _ => agreementAllowed_lifted os started H enc)
end Go.Proofs.YtdknjfmjddlphaaGreat
