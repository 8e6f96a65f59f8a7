/-
  Contracts of functions of the program, each with its walk in the logic of frames. Printed by a program of this session (wip/gen) from the translation.
-/
import Derived.Test.YtdknjfmjddlphaaGS1
import Derived.Test.YtdknjfmjddlphaaLaw17
set_option linter.unusedSimpArgs false
set_option linter.unusedVariables false
namespace Go.Proofs.Ytdknjfmjddlphaa
open Go Go.Fk

set_option maxRecDepth 100000 in
set_option maxHeartbeats 8000000 in
theorem SuperblockGrows_ok {m : Int} {parent : Nm} {A_l : Option Addr} {c_l lo_l hi_l : Nat} {l : List Vt} {A_mm : Option Addr} {c_mm lo_mm hi_mm : Nat} {mm : List Vt} {A_slots : Option Addr} {c_slots lo_slots hi_slots : Nat} {slots : List Ch}  {w : World} (hR_l : Rd w lo_l hi_l A_l l) (hcap_l : l.length ≤ c_l) (hR_mm : Rd w lo_mm hi_mm A_mm mm) (hcap_mm : mm.length ≤ c_mm) (hR_slots : Rd w lo_slots hi_slots A_slots slots) (hcap_slots : slots.length ≤ c_slots) : Gives Try.prog 12 #[(.int .i64 m), (Enc.val (parent : Nm)), (.slice A_l l.length c_l), (.slice A_mm mm.length c_mm), (.slice A_slots slots.length c_slots)] w fun u w' => u = (.bool true) ∧ Ext w w' := by
  have hE : Ext w w := Ext.refl w
  have hlen_l := hR_l.len
  have hlen_mm := hR_mm.len
  have hlen_slots := hR_slots.len
  refine gives_of_W Try.func12 rfl Try.ntmps12 rfl ?_
  have htl : (l.take 250).length ≤ 250 := List.length_take_le _ _
  have htm : (mm.take 250).length ≤ 250 := List.length_take_le _ _
  have hdl := dec17_short m parent (l.take 250)
  have hall : ((([] : List Vt) ++ (mm.take 250)) ++ (l.take 250)).length ≤ 500 := (by simp only [List.length_append, List.length_nil]; omega)
  refine W.seq ?_
  refine W.region (by rfl) ?_
  refine L.step rfl (op_box (cs := (Enc.cells (parent : Nm))) rfl rfl rfl) ?_
  rintro _ w1 ⟨b1, rfl, hb1, hB1, hx1⟩
  have hE := hE.trans hx1
  have hR_l := hR_l.ext hx1
  have hR_mm := hR_mm.ext hx1
  have hR_slots := hR_slots.ext hx1
  refine L.val (v := (.bool false)) rfl (op_assign rfl rfl) ?_
  refine L.nil ?_
  refine thenF_nor ?_
  refine W.seq ?_
  refine W.region (by rfl) ?_
  refine L.val rfl (op_move rfl rfl) ?_
  refine L.step rfl (OpS.call (op_call rfl (argsC rfl argsN) Try.func39 rfl rfl) (cut17_ok hR_l hcap_l)) ?_
  rintro _ w2 ⟨⟨A2, c2, lo2, hi2, rfl, hcap2, hR2⟩, hx2⟩
  have hE := hE.trans hx2
  have hR_l := hR_l.ext hx2
  have hR_mm := hR_mm.ext hx2
  have hR_slots := hR_slots.ext hx2
  have hB1 := hB1.ext hx2
  have hlen2 := hR2.len
  refine L.val rfl (op_move rfl rfl) ?_
  refine L.step rfl (OpS.call (op_call rfl (argsC rfl argsN) Try.func39 rfl rfl) (cut17_ok hR_mm hcap_mm)) ?_
  rintro _ w3 ⟨⟨A3, c3, lo3, hi3, rfl, hcap3, hR3⟩, hx3⟩
  have hE := hE.trans hx3
  have hR_l := hR_l.ext hx3
  have hR_mm := hR_mm.ext hx3
  have hR_slots := hR_slots.ext hx3
  have hB1 := hB1.ext hx3
  have hR2 := hR2.ext hx3
  have hlen3 := hR3.len
  refine L.val rfl (op_assign rfl rfl) ?_
  refine L.val rfl (op_assign rfl rfl) ?_
  refine L.nil ?_
  refine thenF_nor ?_
  refine W.seq ?_
  have S4_hR_l := hR_l
  have S4_hR_mm := hR_mm
  have S4_hR_slots := hR_slots
  have S4_hB1 := hB1
  have S4_hR2 := hR2
  have S4_hR3 := hR3
  have S4_hE := hE
  have hS4 : Ext w3 w3 := Ext.refl _
  refine W.region (by rfl) ?_
  refine L.step rfl (op_slice0 Vt (w3.heap.size) hS4.size rfl sl25) ?_
  rintro v5 w5 ⟨hO5, hx5⟩
  have hE := hE.trans hx5
  have hS4 := hS4.trans hx5
  have hR_l := hR_l.ext hx5
  have hR_mm := hR_mm.ext hx5
  have hR_slots := hR_slots.ext hx5
  have hB1 := hB1.ext hx5
  have hR2 := hR2.ext hx5
  have hR3 := hR3.ext hx5
  refine L.val rfl (op_move rfl rfl) ?_
  refine L.step rfl (op_appendN (l2 := mm.take 250) rfl rfl rfl sl25 zs28 bt28 hO5 hR3 (by simp only [List.length_append, List.length_take, List.length_cons, List.length_nil] at *; omega) (by decide) hS4.size) ?_
  rintro v6 w6 ⟨hO6, hg6⟩
  have hS4 := hS4.own hO5 hg6
  have hR_l := S4_hR_l.ext hS4
  have hR_mm := S4_hR_mm.ext hS4
  have hR_slots := S4_hR_slots.ext hS4
  have hB1 := S4_hB1.ext hS4
  have hR2 := S4_hR2.ext hS4
  have hR3 := S4_hR3.ext hS4
  have hE := S4_hE.trans hS4
  refine L.val rfl (op_move rfl rfl) ?_
  refine L.step rfl (op_appendN (l2 := l.take 250) rfl rfl rfl sl25 zs28 bt28 hO6 hR2 (by simp only [List.length_append, List.length_take, List.length_cons, List.length_nil] at *; omega) (by decide) hS4.size) ?_
  rintro v7 w7 ⟨hO7, hg7⟩
  have hS4 := hS4.own hO6 hg7
  have hR_l := S4_hR_l.ext hS4
  have hR_mm := S4_hR_mm.ext hS4
  have hR_slots := S4_hR_slots.ext hS4
  have hB1 := S4_hB1.ext hS4
  have hR2 := S4_hR2.ext hS4
  have hR3 := S4_hR3.ext hS4
  have hE := S4_hE.trans hS4
  refine L.val rfl (op_assign rfl rfl) ?_
  refine L.nil ?_
  refine thenF_nor ?_
  refine W.seq ?_
  refine W.seq ?_
  refine W.region (by rfl) ?_
  refine L.val rfl (op_move rfl rfl) ?_
  refine L.val rfl (op_load (v := (parent : Nm)) rfl rfl ty24 hB1.cells) ?_
  refine L.val rfl (op_move rfl rfl) ?_
  refine L.step rfl (OpS.call (op_call rfl (argsC rfl (argsC rfl (argsC rfl argsN))) Try.func40 rfl rfl) (Decide_ok hR2 (by first | omega | (simp only [List.length_drop, List.length_take, List.length_append, List.length_cons, List.length_nil] at *; omega)))) ?_
  rintro _ w8 ⟨⟨u8, rfl, A8, c8, lo8, hi8, rfl, hcap8, hR8⟩, hx8⟩
  have hE := hE.trans hx8
  have hS4 := hS4.trans hx8
  have hR_l := hR_l.ext hx8
  have hR_mm := hR_mm.ext hx8
  have hR_slots := hR_slots.ext hx8
  have hB1 := hB1.ext hx8
  have hR2 := hR2.ext hx8
  have hR3 := hR3.ext hx8
  have hO7 := hO7.ext hx8
  have hlen8 := hR8.len
  refine L.val rfl (op_move rfl rfl) ?_
  refine L.val rfl (op_extract rfl rfl rfl) ?_
  refine L.val rfl (op_extract rfl rfl rfl) ?_
  refine L.val rfl (op_assign rfl rfl) ?_
  refine L.val rfl (op_assign rfl rfl) ?_
  refine L.nil ?_
  refine thenF_nor ?_
  refine W.seq ?_
  obtain ⟨A9, c9, hv9, hR9, hcap9⟩ := (hO7).form
  have hlen9 := hR9.len
  refine W.drawS [Sp.eq (.bool ((decide17_f m parent (l.take 250)).2)), Sp.eq (.bool ((decide17_f m parent (l.take 250)).2)), Sp.eq (vif ((decide17_f m parent (l.take 250)).2) (.int .i64 m)), Sp.eq (vif ((decide17_f m parent (l.take 250)).2) (Enc.val (parent : Nm))), Sp.eq (vif ((decide17_f m parent (l.take 250)).2) (.slice A9 ((([] : List Vt) ++ mm.take 250) ++ l.take 250).length c9)), Sp.eq (vif ((decide17_f m parent (l.take 250)).2) (.slice A8 ((decide17_f m parent (l.take 250)).1).length c8)), Sp.gsl ((decide17_f m parent (l.take 250)).2) (choices_f ((decide17_f m parent (l.take 250)).1) : List Ch), Sp.eq (vif ((decide17_f m parent (l.take 250)).2) (.bool (certified17_f m parent ((([] : List Vt) ++ mm.take 250) ++ l.take 250) (choices_f ((decide17_f m parent (l.take 250)).1))))), Sp.eq (vif ((decide17_f m parent (l.take 250)).2) (.bool (!(certified17_f m parent ((([] : List Vt) ++ mm.take 250) ++ l.take 250) (choices_f ((decide17_f m parent (l.take 250)).1)))))), Sp.eq (.bool (((decide17_f m parent (l.take 250)).2) && (!(certified17_f m parent ((([] : List Vt) ++ mm.take 250) ++ l.take 250) (choices_f ((decide17_f m parent (l.take 250)).1))))))] mixed (by rfl) (Obls.cons ?_ (Obls.cons ?_ (Obls.cons ?_ (Obls.cons ?_ (Obls.cons ?_ (Obls.cons ?_ (Obls.cons ?_ (Obls.cons ?_ (Obls.cons ?_ (Obls.cons ?_ Obls.nil)))))))))) ?_
  · intro f11 w11 hx11 ho11 hd11
    have d11_s13 : f11 13 = (.bool ((decide17_f m parent (l.take 250)).2)) := ho11 13 rfl
    exact D.val rfl (op_move rfl d11_s13)
  · intro f12 w12 hx12 ho12 hd12
    have d12_0 : f12 30 = (.bool ((decide17_f m parent (l.take 250)).2)) := hd12 0 rfl
    exact D.val rfl (op_move rfl d12_0)
  · intro f13 w13 hx13 ho13 hd13
    have d13_s0 : f13 0 = (.int .i64 m) := ho13 0 rfl
    have d13_1 : f13 31 = (.bool ((decide17_f m parent (l.take 250)).2)) := hd13 1 rfl
    exact D.guardv (wanted_yes rfl rfl d13_1) (fun hg => (op_move rfl d13_s0))
  · intro f14 w14 hx14 ho14 hd14
    have d14_s6 : f14 6 = (.pointer (some ⟨b1, 0, none⟩)) := ho14 6 rfl
    have d14_1 : f14 31 = (.bool ((decide17_f m parent (l.take 250)).2)) := hd14 1 rfl
    have hR_l := hR_l.ext hx14
    have hR_mm := hR_mm.ext hx14
    have hR_slots := hR_slots.ext hx14
    have hB1 := hB1.ext hx14
    have hR2 := hR2.ext hx14
    have hR3 := hR3.ext hx14
    have hO7 := hO7.ext hx14
    have hR8 := hR8.ext hx14
    have hR9 := hR9.ext hx14
    exact D.guardv (wanted_yes rfl rfl d14_1) (fun hg => (op_load (v := (parent : Nm)) rfl d14_s6 ty24 hB1.cells))
  · intro f15 w15 hx15 ho15 hd15
    have d15_s11 : f15 11 = (.slice A9 ((([] : List Vt) ++ mm.take 250) ++ l.take 250).length c9) := (ho15 11 rfl).trans ((show _ = v7 from rfl).trans hv9)
    have d15_1 : f15 31 = (.bool ((decide17_f m parent (l.take 250)).2)) := hd15 1 rfl
    exact D.guardv (wanted_yes rfl rfl d15_1) (fun hg => (op_move rfl d15_s11))
  · intro f16 w16 hx16 ho16 hd16
    have d16_s12 : f16 12 = (.slice A8 ((decide17_f m parent (l.take 250)).1).length c8) := ho16 12 rfl
    have d16_1 : f16 31 = (.bool ((decide17_f m parent (l.take 250)).2)) := hd16 1 rfl
    exact D.guardv (wanted_yes rfl rfl d16_1) (fun hg => (op_move rfl d16_s12))
  · intro f17 w17 hx17 ho17 hd17
    have d17_1 : f17 31 = (.bool ((decide17_f m parent (l.take 250)).2)) := hd17 1 rfl
    have d17_5 : f17 35 = (vif ((decide17_f m parent (l.take 250)).2) (.slice A8 ((decide17_f m parent (l.take 250)).1).length c8)) := hd17 5 rfl
    have hR_l := hR_l.ext hx17
    have hR_mm := hR_mm.ext hx17
    have hR_slots := hR_slots.ext hx17
    have hB1 := hB1.ext hx17
    have hR2 := hR2.ext hx17
    have hR3 := hR3.ext hx17
    have hO7 := hO7.ext hx17
    have hR8 := hR8.ext hx17
    have hR9 := hR9.ext hx17
    exact D.guardsl (l := (choices_f ((decide17_f m parent (l.take 250)).1) : List Ch)) (wanted_yes rfl rfl d17_1) (fun hg => by have hp := hg; (try simp only [Bool.and_eq_true, Bool.or_eq_true, Bool.not_eq_true', decide_eq_true_eq, decide_eq_false_iff_not, bne_iff_ne, beq_iff_eq] at hp); exact (OpS.call (op_call rfl (argsC ((show _ = vif _ (.slice A8 ((decide17_f m parent (l.take 250)).1).length c8) from d17_5).trans (vif_t hg).symm) argsN) Try.func42 rfl rfl) (Choices_ok hR8 (by first | omega | (simp only [List.length_drop, List.length_take, List.length_append, List.length_cons, List.length_nil] at *; omega)))))
  · intro f18 w18 hx18 ho18 hd18
    have d18_1 : f18 31 = (.bool ((decide17_f m parent (l.take 250)).2)) := hd18 1 rfl
    have d18_2 : f18 32 = (vif ((decide17_f m parent (l.take 250)).2) (.int .i64 m)) := hd18 2 rfl
    have d18_3 : f18 33 = (vif ((decide17_f m parent (l.take 250)).2) (Enc.val (parent : Nm))) := hd18 3 rfl
    have d18_4 : f18 34 = (vif ((decide17_f m parent (l.take 250)).2) (.slice A9 ((([] : List Vt) ++ mm.take 250) ++ l.take 250).length c9)) := hd18 4 rfl
    have hR_l := hR_l.ext hx18
    have hR_mm := hR_mm.ext hx18
    have hR_slots := hR_slots.ext hx18
    have hB1 := hB1.ext hx18
    have hR2 := hR2.ext hx18
    have hR3 := hR3.ext hx18
    have hO7 := hO7.ext hx18
    have hR8 := hR8.ext hx18
    have hR9 := hR9.ext hx18
    exact D.guardc (wanted_yes rfl rfl d18_1) (fun hg => by have hp := hg; (try simp only [Bool.and_eq_true, Bool.or_eq_true, Bool.not_eq_true', decide_eq_true_eq, decide_eq_false_iff_not, bne_iff_ne, beq_iff_eq] at hp); obtain ⟨A18_6, c18_6, lo18_6, hi18_6, e18_6, hcap18_6, hR18_6⟩ := (hd18 6 rfl).1 hg; have hlen18_6 := hR18_6.len; exact (OpS.call (op_call rfl (argsC ((show _ = vif _ (.int .i64 m) from d18_2).trans (vif_t hg).symm) (argsC ((show _ = vif _ (Enc.val (parent : Nm)) from d18_3).trans (vif_t hg).symm) (argsC ((show _ = vif _ (.slice A9 ((([] : List Vt) ++ mm.take 250) ++ l.take 250).length c9) from d18_4).trans (vif_t hg).symm) (argsC e18_6 argsN)))) Try.func41 rfl rfl) (Certified17_ok hR9 hR18_6 (by first | omega | (simp only [List.length_drop, List.length_take, List.length_append, List.length_cons, List.length_nil] at *; omega)))))
  · intro f19 w19 hx19 ho19 hd19
    have d19_1 : f19 31 = (.bool ((decide17_f m parent (l.take 250)).2)) := hd19 1 rfl
    have d19_7 : f19 37 = (vif ((decide17_f m parent (l.take 250)).2) (.bool (certified17_f m parent ((([] : List Vt) ++ mm.take 250) ++ l.take 250) (choices_f ((decide17_f m parent (l.take 250)).1))))) := hd19 7 rfl
    exact D.guardv (wanted_yes rfl rfl d19_1) (fun hg => (op_not rfl ((show _ = vif _ (.bool (certified17_f m parent ((([] : List Vt) ++ mm.take 250) ++ l.take 250) (choices_f ((decide17_f m parent (l.take 250)).1)))) from d19_7).trans (vif_t hg).symm)))
  · intro f20 w20 hx20 ho20 hd20
    have d20_1 : f20 31 = (.bool ((decide17_f m parent (l.take 250)).2)) := hd20 1 rfl
    have d20_8 : f20 38 = (vif ((decide17_f m parent (l.take 250)).2) (.bool (!(certified17_f m parent ((([] : List Vt) ++ mm.take 250) ++ l.take 250) (choices_f ((decide17_f m parent (l.take 250)).1)))))) := hd20 8 rfl
    exact D.val rfl (op_and rfl d20_1 d20_8 rfl)
  intro f21 w21 hx21 ho21 hr21
  have s0 : f21 0 = (.int .i64 m) := ho21 0 rfl
  have s1 : f21 1 = (Enc.val (parent : Nm)) := ho21 1 rfl
  have s2 : f21 2 = (.slice A2 (l.take 250).length c2) := ho21 2 rfl
  have s3 : f21 3 = (.slice A3 (mm.take 250).length c3) := ho21 3 rfl
  have s4 : f21 4 = (.slice A_slots slots.length c_slots) := ho21 4 rfl
  have s6 : f21 6 = (.pointer (some ⟨b1, 0, none⟩)) := ho21 6 rfl
  have s10 : f21 10 = (.bool false) := ho21 10 rfl
  have s11 : f21 11 = (.slice A9 ((([] : List Vt) ++ mm.take 250) ++ l.take 250).length c9) := (ho21 11 rfl).trans ((show _ = v7 from rfl).trans hv9)
  have s12 : f21 12 = (.slice A8 ((decide17_f m parent (l.take 250)).1).length c8) := ho21 12 rfl
  have s13 : f21 13 = (.bool ((decide17_f m parent (l.take 250)).2)) := ho21 13 rfl
  have s39 : f21 39 = (.bool (((decide17_f m parent (l.take 250)).2) && (!(certified17_f m parent ((([] : List Vt) ++ mm.take 250) ++ l.take 250) (choices_f ((decide17_f m parent (l.take 250)).1)))))) := hr21 9 (by decide)
  have hE := hE.trans hx21
  have hS4 := hS4.trans hx21
  have hR_l := hR_l.ext hx21
  have hR_mm := hR_mm.ext hx21
  have hR_slots := hR_slots.ext hx21
  have hB1 := hB1.ext hx21
  have hR2 := hR2.ext hx21
  have hR3 := hR3.ext hx21
  have hO7 := hO7.ext hx21
  have hR8 := hR8.ext hx21
  have hR9 := hR9.ext hx21
  refine thenF_nor ?_
  refine W.cond (t := ((decide17_f m parent (l.take 250)).2) && (!(certified17_f m parent ((([] : List Vt) ++ mm.take 250) ++ l.take 250) (choices_f ((decide17_f m parent (l.take 250)).1))))) s39 (fun hc22 => ?_) (fun hc22 => ?_)
  · have hp22 := hc22
    simp only [Bool.and_eq_true, Bool.or_eq_true, Bool.and_eq_false_iff, Bool.or_eq_false_iff, Bool.not_eq_true', Bool.not_eq_false', decide_eq_true_eq, decide_eq_false_iff_not] at hp22
    exact absurd hc22 (by rw [grows17a]; simp)
  · have hp22 := hc22
    simp only [Bool.and_eq_true, Bool.or_eq_true, Bool.and_eq_false_iff, Bool.or_eq_false_iff, Bool.not_eq_true', Bool.not_eq_false', decide_eq_true_eq, decide_eq_false_iff_not] at hp22
    refine W.skip ?_
    refine thenF_nor ?_
    refine W.seq ?_
    obtain ⟨A23, c23, hv23, hR23, hcap23⟩ := (hO7).form
    have hlen23 := hR23.len
    refine W.region (by rfl) ?_
    refine L.val rfl (op_move rfl s0) ?_
    refine L.val rfl (op_load (v := (parent : Nm)) rfl s6 ty24 hB1.cells) ?_
    refine L.val rfl (op_move rfl s2) ?_
    refine L.val rfl (op_move rfl s4) ?_
    refine L.call (v := (.bool (certified17_f m parent (l.take 250) slots))) rfl (OpS.call (op_call rfl (argsC rfl (argsC rfl (argsC rfl (argsC rfl argsN)))) Try.func41 rfl rfl) (Certified17_ok hR2 hR_slots (by first | omega | (simp only [List.length_drop, List.length_take, List.length_append, List.length_cons, List.length_nil] at *; omega)))) ?_
    intro w24 hx24
    have hE := hE.trans hx24
    have hS4 := hS4.trans hx24
    have hR_l := hR_l.ext hx24
    have hR_mm := hR_mm.ext hx24
    have hR_slots := hR_slots.ext hx24
    have hB1 := hB1.ext hx24
    have hR2 := hR2.ext hx24
    have hR3 := hR3.ext hx24
    have hO7 := hO7.ext hx24
    have hR8 := hR8.ext hx24
    have hR9 := hR9.ext hx24
    have hR23 := hR23.ext hx24
    refine L.val rfl (op_not rfl rfl) ?_
    refine L.val rfl (op_move rfl rfl) ?_
    refine L.guardv (v := (.int .i64 m)) (wanted_no rfl rfl rfl) (fun hg => (op_move rfl s0)) ?_
    refine L.guardv (v := (Enc.val (parent : Nm))) (wanted_no rfl rfl rfl) (fun hg => (op_load (v := (parent : Nm)) rfl s6 ty24 hB1.cells)) ?_
    refine L.guardv (v := (.slice A23 ((([] : List Vt) ++ mm.take 250) ++ l.take 250).length c23)) (wanted_no rfl rfl rfl) (fun hg => (op_move rfl ((show _ = v7 from (s11.trans hv9.symm)).trans hv23))) ?_
    refine L.guardv (v := (.slice A_slots slots.length c_slots)) (wanted_no rfl rfl rfl) (fun hg => (op_move rfl s4)) ?_
    refine L.guardc (v := (.bool (certified17_f m parent ((([] : List Vt) ++ mm.take 250) ++ l.take 250) slots))) (wanted_no rfl rfl rfl) (fun hg => by have hp := hg; (try simp only [Bool.and_eq_true, Bool.or_eq_true, Bool.not_eq_true', decide_eq_true_eq, decide_eq_false_iff_not, bne_iff_ne, beq_iff_eq] at hp); exact (OpS.call (op_call rfl (argsC ((show _ = vif _ (.int .i64 m) from rfl).trans (vif_t hg).symm) (argsC ((show _ = vif _ (Enc.val (parent : Nm)) from rfl).trans (vif_t hg).symm) (argsC ((show _ = vif _ (.slice A23 ((([] : List Vt) ++ mm.take 250) ++ l.take 250).length c23) from rfl).trans (vif_t hg).symm) (argsC ((show _ = vif _ (.slice A_slots slots.length c_slots) from rfl).trans (vif_t hg).symm) argsN)))) Try.func41 rfl rfl) (Certified17_ok hR23 hR_slots (by first | omega | (simp only [List.length_drop, List.length_take, List.length_append, List.length_cons, List.length_nil] at *; omega))))) ?_
    intro w25 hx25
    have hE := hE.trans hx25
    have hS4 := hS4.trans hx25
    have hR_l := hR_l.ext hx25
    have hR_mm := hR_mm.ext hx25
    have hR_slots := hR_slots.ext hx25
    have hB1 := hB1.ext hx25
    have hR2 := hR2.ext hx25
    have hR3 := hR3.ext hx25
    have hO7 := hO7.ext hx25
    have hR8 := hR8.ext hx25
    have hR9 := hR9.ext hx25
    have hR23 := hR23.ext hx25
    refine L.val rfl (op_or rfl rfl rfl rfl) ?_
    refine L.val rfl (op_move rfl rfl) ?_
    refine L.guardc (v := (.bool true)) (wanted_yes rfl rfl rfl) (fun hg => (OpS.call (op_call rfl argsN Try.func43 rfl rfl) awake17_ok)) ?_
    intro w26 hx26
    have hE := hE.trans hx26
    have hS4 := hS4.trans hx26
    have hR_l := hR_l.ext hx26
    have hR_mm := hR_mm.ext hx26
    have hR_slots := hR_slots.ext hx26
    have hB1 := hB1.ext hx26
    have hR2 := hR2.ext hx26
    have hR3 := hR3.ext hx26
    have hO7 := hO7.ext hx26
    have hR8 := hR8.ext hx26
    have hR9 := hR9.ext hx26
    have hR23 := hR23.ext hx26
    refine L.val rfl (op_and rfl rfl rfl rfl) ?_
    refine L.val rfl (op_assign rfl rfl) ?_
    refine L.nil ?_
    refine thenF_nor ?_
    refine W.ret ?_
    exact end_ret1 (v := (.bool (((!(certified17_f m parent (l.take 250) slots)) || (certified17_f m parent ((([] : List Vt) ++ mm.take 250) ++ l.take 250) slots)) && true))) rfl rfl ⟨(by rw [grows17b]; rfl), hE⟩

end Go.Proofs.Ytdknjfmjddlphaa
