/-
  forkledgerlaw17.SuperblockFirst returns true at every input, and its arguments read as they did. Conditions: none.
-/
import Derived.Test.YtdknjfmjddlphaaGreatSSuperblockFirst6
set_option linter.unusedVariables false
namespace Go.Proofs.YtdknjfmjddlphaaGreat
open Go Go.Fk Go.RowKit Go.ChangeShapes Go.WideShapes Go.ChangeAt

set_option maxRecDepth 100000 in
theorem superblockFirst_lifted (os : Os) (started : os.Started) (H : Type) (enc : TypeId × Value → H) :
    ReturnsInHanded {} Tryz.checked os 13 .any (Rows.superblockFirstSpec.pre6 enc Tryz.prog Tryz.f13 Rows.superblockFirstRow.domain false) (Rows.superblockFirstSpec.post enc Tryz.prog Tryz.f13 false true false false) := by
  refine returnsInHanded_of_change (C := Tryz.checked) own started (by kernel_rfl) Tryz.func13
    (ChangeSpec.witness6 (enc := enc) (C := Tryz.checked) false ⟨#[], #[.int .i64 0, Enc.val Nm.zero, .slice none 0 0, .int .i64 0, .slice none 0 0, .bool false], []⟩ 8 (by kernel_rfl) (by kernel_rfl) (by kernel_rfl) (by kernel_rfl)) ?_
  intro W base args ds gs before hval0 hW hcnd _
  have hval : ∀ (j : Nat) t v, Tryz.f13.params[j]? = some t → args[j]? = some v → Value.okWide Tryz.prog W .any base t v := hval0
  have hW' := hW
  obtain ⟨p, q, hA0, hV, rfl, hfz, hnd⟩ := hW
  have hA : DataW.TrodAll enc Tryz.prog W 0 (fun _ => true) true Tryz.f13.params.toList args.toList ds p := hA0
  rw [Tryz.params13] at hA hval
  obtain ⟨v0, vs0, d0, ds0, p0, q0, ha, rfl, hp, h0, hA⟩ := trodAll_cons hA
  obtain ⟨v1, vs1, d1, ds1, p1, q1, rfl, rfl, hp, h1, hA⟩ := trodAll_cons hA
  obtain ⟨v2, vs2, d2, ds2, p2, q2, rfl, rfl, hp, h2, hA⟩ := trodAll_cons hA
  obtain ⟨v3, vs3, d3, ds3, p3, q3, rfl, rfl, hp, h3, hA⟩ := trodAll_cons hA
  obtain ⟨v4, vs4, d4, ds4, p4, q4, rfl, rfl, hp, h4, hA⟩ := trodAll_cons hA
  obtain ⟨v5, vs5, d5, ds5, p5, q5, rfl, rfl, hp, h5, hA⟩ := trodAll_cons hA
  obtain ⟨rfl, rfl, _⟩ := trodAll_nil hA
  obtain rfl : args = #[v0, v1, v2, v3, v4, v5] := Array.ext' ha
  obtain ⟨rfl, rfl⟩ := trodVars_none hV
  obtain ⟨x0, rfl, _, _, hw0⟩ := open_int Tryz.underlying22 (hval 0 22 v0 rfl rfl) h0
  obtain ⟨x1, rfl⟩ := open_name Tryz.underlying24 opens_nm (hval 1 24 v1 rfl rfl) h1
  obtain ⟨A2, c2, lo2, hi2, x2, rfl, hcap2, hR2⟩ := open_list Tryz.underlying25 opens_vt (hval 2 25 v2 rfl rfl) h2
  obtain ⟨x3, rfl, _, _, hw3⟩ := open_int Tryz.underlying3 (hval 3 3 v3 rfl rfl) h3
  obtain ⟨A4, c4, lo4, hi4, x4, rfl, hcap4, hR4⟩ := open_list Tryz.underlying28 opens_nm (hval 4 28 v4 rfl rfl) h4
  obtain ⟨x5, rfl, _, _⟩ := open_bool Tryz.underlying4 (hval 5 4 v5 rfl rfl) h5
  have hlt : ∀ x ∈ p ++ [], x.block < W.heap.size := fun x hx => hW'.lt x hx
  refine Calls.mono (SuperblockFirst_ok hR2 hcap2 hR4 hcap4) fun e W' ⟨u, he, hu, hx⟩ => ?_
  subst he hu
  exact ⟨_, rfl, post_of_ext (pa := p) (pv := []) hW' (fun _ _ _ => trodAll_mk1 (shut_bool Tryz.underlying4 true))
    (fun sp hsp => trodAll_stays laidOut hx sp (by intro t ht; rw [Tryz.params13] at ht; simp only [List.mem_cons, List.not_mem_nil, or_false] at ht; rcases ht with rfl | rfl | rfl | rfl | rfl | rfl <;> exact ⟨by kernel_rfl, by decide⟩) (fun x hx' => hlt x (by simpa using hx')) (fun x hx' => hsp x (by simpa using hx')) hA0) (fun _ _ => rfl) rfl hx (ok_one (by kernel_rfl) rfl (okWide_bool_mk Tryz.underlying4 true))⟩
theorem superblockFirst_inPlace : (Rows.superblockFirstRow.inPlace == Tryz.checked.prog.inPlace 13) = true := by kernel_rfl
theorem superblockFirst_unfollowed : (Rows.superblockFirstRow.unfollowed == Tryz.checked.prog.unfollowed 13) = true := by kernel_rfl
theorem superblockFirst_recurses : (Rows.superblockFirstRow.recurses == Tryz.checked.prog.recurses 13) = true := by kernel_rfl
theorem superblockFirst_vnamed : (Rows.superblockFirstRow.named == Tryz.checked.prog.varsNamed 13) = true := by kernel_rfl
theorem superblockFirst_facts : joinedFacts Tryz.checked.prog 13 Tryz.f13 Rows.superblockFirstSpec Rows.superblockFirstRow = true :=
  joined_of fact_laid fact_rowed fact_stops fact_knobs fact_heard fact_enter fact_lifts fact_make fact_keys (by kernel_rfl) (by kernel_rfl) (by kernel_rfl) (by kernel_rfl) (by kernel_rfl) superblockFirst_inPlace superblockFirst_unfollowed superblockFirst_recurses superblockFirst_vnamed (by kernel_rfl) (by kernel_rfl) (by kernel_rfl) (by kernel_rfl) (by kernel_rfl) (by kernel_rfl)
theorem superblockFirst_named : Tryz.checked.prog.funcNamed Rows.superblockFirstRow.func = some 13 := by kernel_rfl
theorem superblockFirst_inst : Tryz.f13.isInstance Tryz.checked.prog Rows.superblockFirstRow.origin Rows.superblockFirstRow.targs := of_decide_eq_true (by kernel_rfl)
theorem superblockFirst_wrap : Tryz.f13.isWrapper Tryz.checked.prog Rows.superblockFirstRow.wrapper Rows.superblockFirstRow.mainSum := by unfold Func.isWrapper; rw [if_neg (by decide +kernel)]; exact ⟨rfl, rfl⟩
theorem superblockFirst_holds : Rows.SuperblockFirstSaid :=
  OpenClaim.holds_of_wide 13 Tryz.f13 rfl rfl rfl rfl rfl rfl rfl ⟨rfl, rfl, rfl, rfl, rfl⟩ rfl rfl rfl rfl rfl superblockFirst_named Tryz.func13 superblockFirst_facts
    superblockFirst_inst superblockFirst_wrap
    (fun os started H enc _ => superblockFirst_lifted os started H enc)
end Go.Proofs.YtdknjfmjddlphaaGreat
