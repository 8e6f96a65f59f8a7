/-
  Contracts of functions of the program, each with its walk in the logic of frames. Printed by a program of this session (wip/gen) from the translation.
-/
import Derived.Test.YtdknjfmjddlphaaGC5
import Derived.Test.YtdknjfmjddlphaaLaw13b
set_option linter.unusedSimpArgs false
set_option linter.unusedVariables false
namespace Go.Proofs.Ytdknjfmjddlphaa
open Go Go.Fk

set_option maxRecDepth 100000 in
set_option maxHeartbeats 16000000 in
theorem CertificateAccounts_ok {m : Int} {parent : Nm} {A_l : Option Addr} {c_l lo_l hi_l : Nat} {l : List Vt} {A_mm : Option Addr} {c_mm lo_mm hi_mm : Nat} {mm : List Vt} {slot : Int}  {w : World} (hR_l : Rd w lo_l hi_l A_l l) (hcap_l : l.length ≤ c_l) (hR_mm : Rd w lo_mm hi_mm A_mm mm) (hcap_mm : mm.length ≤ c_mm) : Gives Try.prog 17 #[(.int .i64 m), (Enc.val (parent : Nm)), (.slice A_l l.length c_l), (.slice A_mm mm.length c_mm), (.int .i64 slot)] w fun u w' => u = (.bool true) ∧ Ext w w' := by
  have hE : Ext w w := Ext.refl w
  have hlen_l := hR_l.len
  have hlen_mm := hR_mm.len
  refine gives_of_W Try.func17 rfl Try.ntmps17 rfl ?_
  have htl : (l.take 250).length ≤ 250 := List.length_take_le _ _
  have htm : (mm.take 250).length ≤ 250 := List.length_take_le _ _
  have hsz0 := size_nn m
  have hsz1 := size_le m
  have hq0 := quorum_bounds m
  refine W.seq ?_
  refine W.region (by rfl) ?_
  refine L.step rfl (op_box (cs := (Enc.cells (parent : Nm))) rfl rfl rfl) ?_
  rintro _ w1 ⟨b1, rfl, hb1, hB1, hx1⟩
  have hE := hE.trans hx1
  have hR_l := hR_l.ext hx1
  have hR_mm := hR_mm.ext hx1
  refine L.val (v := (.bool false)) rfl (op_assign rfl rfl) ?_
  refine L.nil ?_
  refine thenF_nor ?_
  refine W.seq ?_
  refine W.region (by rfl) ?_
  refine L.val rfl (op_move rfl rfl) ?_
  refine L.step rfl (OpS.call (op_call rfl (argsC rfl argsN) Try.func46 rfl rfl) (cut13_ok hR_l hcap_l)) ?_
  rintro _ w2 ⟨⟨A2, c2, lo2, hi2, rfl, hcap2, hR2⟩, hx2⟩
  have hE := hE.trans hx2
  have hR_l := hR_l.ext hx2
  have hR_mm := hR_mm.ext hx2
  have hB1 := hB1.ext hx2
  have hlen2 := hR2.len
  refine L.val rfl (op_move rfl rfl) ?_
  refine L.step rfl (OpS.call (op_call rfl (argsC rfl argsN) Try.func46 rfl rfl) (cut13_ok hR_mm hcap_mm)) ?_
  rintro _ w3 ⟨⟨A3, c3, lo3, hi3, rfl, hcap3, hR3⟩, hx3⟩
  have hE := hE.trans hx3
  have hR_l := hR_l.ext hx3
  have hR_mm := hR_mm.ext hx3
  have hB1 := hB1.ext hx3
  have hR2 := hR2.ext hx3
  have hlen3 := hR3.len
  refine L.val rfl (op_assign rfl rfl) ?_
  refine L.val rfl (op_assign rfl rfl) ?_
  refine L.nil ?_
  refine thenF_nor ?_
  refine W.seq ?_
  refine W.drawS [Sp.eq (.int .i64 m), Sp.eq (Enc.val (parent : Nm)), Sp.eq (.slice A2 (l.take 250).length c2), Sp.eq (.int .i64 slot), Sp.slr (outcomes_f m parent (l.take 250) slot : List Oc), Sp.eq (.int .i64 m), Sp.eq (Enc.val (parent : Nm)), Sp.eq (.slice A3 (mm.take 250).length c3), Sp.eq (.int .i64 slot), Sp.slr (outcomes_f m parent (mm.take 250) slot : List Oc), Sp.slr (outcomes_f m parent (l.take 250) slot : List Oc), Sp.slr (outcomes_f m parent (mm.take 250) slot : List Oc)] mixed (by rfl) (Obls.cons ?_ (Obls.cons ?_ (Obls.cons ?_ (Obls.cons ?_ (Obls.cons ?_ (Obls.cons ?_ (Obls.cons ?_ (Obls.cons ?_ (Obls.cons ?_ (Obls.cons ?_ (Obls.cons ?_ (Obls.cons ?_ Obls.nil)))))))))))) ?_
  · intro f5 w5 hx5 ho5 hd5
    have d5_s0 : f5 0 = (.int .i64 m) := ho5 0 rfl
    exact D.val rfl (op_move rfl d5_s0)
  · intro f6 w6 hx6 ho6 hd6
    have d6_s6 : f6 6 = (.pointer (some ⟨b1, 0, none⟩)) := ho6 6 rfl
    have hR_l := hR_l.ext hx6
    have hR_mm := hR_mm.ext hx6
    have hB1 := hB1.ext hx6
    have hR2 := hR2.ext hx6
    have hR3 := hR3.ext hx6
    exact D.val rfl (op_load (v := (parent : Nm)) rfl d6_s6 ty24 hB1.cells)
  · intro f7 w7 hx7 ho7 hd7
    have d7_s2 : f7 2 = (.slice A2 (l.take 250).length c2) := ho7 2 rfl
    exact D.val rfl (op_move rfl d7_s2)
  · intro f8 w8 hx8 ho8 hd8
    have d8_s4 : f8 4 = (.int .i64 slot) := ho8 4 rfl
    exact D.val rfl (op_move rfl d8_s4)
  · intro f9 w9 hx9 ho9 hd9
    have d9_0 : f9 27 = (.int .i64 m) := hd9 0 rfl
    have d9_1 : f9 28 = (Enc.val (parent : Nm)) := hd9 1 rfl
    have d9_2 : f9 29 = (.slice A2 (l.take 250).length c2) := hd9 2 rfl
    have d9_3 : f9 30 = (.int .i64 slot) := hd9 3 rfl
    have hR_l := hR_l.ext hx9
    have hR_mm := hR_mm.ext hx9
    have hB1 := hB1.ext hx9
    have hR2 := hR2.ext hx9
    have hR3 := hR3.ext hx9
    exact D.call (R := (Sp.slr (outcomes_f m parent (l.take 250) slot : List Oc)).p) rfl (OpS.call (op_call rfl (argsC d9_0 (argsC d9_1 (argsC d9_2 (argsC d9_3 argsN)))) Try.func26 rfl rfl) (Outcomes_ok hR2 (by first | omega | (simp only [List.length_drop, List.length_take, List.length_append, List.length_cons, List.length_nil] at *; omega))))
  · intro f10 w10 hx10 ho10 hd10
    have d10_s0 : f10 0 = (.int .i64 m) := ho10 0 rfl
    exact D.val rfl (op_move rfl d10_s0)
  · intro f11 w11 hx11 ho11 hd11
    have d11_s6 : f11 6 = (.pointer (some ⟨b1, 0, none⟩)) := ho11 6 rfl
    have hR_l := hR_l.ext hx11
    have hR_mm := hR_mm.ext hx11
    have hB1 := hB1.ext hx11
    have hR2 := hR2.ext hx11
    have hR3 := hR3.ext hx11
    exact D.val rfl (op_load (v := (parent : Nm)) rfl d11_s6 ty24 hB1.cells)
  · intro f12 w12 hx12 ho12 hd12
    have d12_s3 : f12 3 = (.slice A3 (mm.take 250).length c3) := ho12 3 rfl
    exact D.val rfl (op_move rfl d12_s3)
  · intro f13 w13 hx13 ho13 hd13
    have d13_s4 : f13 4 = (.int .i64 slot) := ho13 4 rfl
    exact D.val rfl (op_move rfl d13_s4)
  · intro f14 w14 hx14 ho14 hd14
    have d14_5 : f14 32 = (.int .i64 m) := hd14 5 rfl
    have d14_6 : f14 33 = (Enc.val (parent : Nm)) := hd14 6 rfl
    have d14_7 : f14 34 = (.slice A3 (mm.take 250).length c3) := hd14 7 rfl
    have d14_8 : f14 35 = (.int .i64 slot) := hd14 8 rfl
    have hR_l := hR_l.ext hx14
    have hR_mm := hR_mm.ext hx14
    have hB1 := hB1.ext hx14
    have hR2 := hR2.ext hx14
    have hR3 := hR3.ext hx14
    exact D.call (R := (Sp.slr (outcomes_f m parent (mm.take 250) slot : List Oc)).p) rfl (OpS.call (op_call rfl (argsC d14_5 (argsC d14_6 (argsC d14_7 (argsC d14_8 argsN)))) Try.func26 rfl rfl) (Outcomes_ok hR3 (by first | omega | (simp only [List.length_drop, List.length_take, List.length_append, List.length_cons, List.length_nil] at *; omega))))
  · intro f15 w15 hx15 ho15 hd15
    exact D.call (R := (Sp.slr (outcomes_f m parent (l.take 250) slot : List Oc)).p) rfl (OpS.val (op_assign rfl rfl) ⟨hd15 4 rfl, Ext.refl _⟩)
  · intro f16 w16 hx16 ho16 hd16
    exact D.call (R := (Sp.slr (outcomes_f m parent (mm.take 250) slot : List Oc)).p) rfl (OpS.val (op_assign rfl rfl) ⟨hd16 9 rfl, Ext.refl _⟩)
  intro f17 w17 hx17 ho17 hr17
  have s0 : f17 0 = (.int .i64 m) := ho17 0 rfl
  have s1 : f17 1 = (Enc.val (parent : Nm)) := ho17 1 rfl
  have s2 : f17 2 = (.slice A2 (l.take 250).length c2) := ho17 2 rfl
  have s3 : f17 3 = (.slice A3 (mm.take 250).length c3) := ho17 3 rfl
  have s4 : f17 4 = (.int .i64 slot) := ho17 4 rfl
  have s6 : f17 6 = (.pointer (some ⟨b1, 0, none⟩)) := ho17 6 rfl
  have s10 : f17 10 = (.bool false) := ho17 10 rfl
  obtain ⟨A17_10, c17_10, lo17_10, hi17_10, e17_10, hcap17_10, hR17_10⟩ := hr17 10 (by decide)
  have hlen17_10 := hR17_10.len
  obtain ⟨A17_11, c17_11, lo17_11, hi17_11, e17_11, hcap17_11, hR17_11⟩ := hr17 11 (by decide)
  have hlen17_11 := hR17_11.len
  have hE := hE.trans hx17
  have hR_l := hR_l.ext hx17
  have hR_mm := hR_mm.ext hx17
  have hB1 := hB1.ext hx17
  have hR2 := hR2.ext hx17
  have hR3 := hR3.ext hx17
  refine thenF_nor ?_
  refine W.seq ?_
  refine W.region (by rfl) ?_
  refine L.val rfl (op_move rfl s0) ?_
  refine L.call (v := (.int .i64 (size_f m))) rfl (OpS.call (op_call rfl (argsC rfl argsN) Try.func29 rfl rfl) Size_ok) ?_
  intro w18 hx18
  have hE := hE.trans hx18
  have hR_l := hR_l.ext hx18
  have hR_mm := hR_mm.ext hx18
  have hB1 := hB1.ext hx18
  have hR2 := hR2.ext hx18
  have hR3 := hR3.ext hx18
  have hR17_10 := hR17_10.ext hx18
  have hR17_11 := hR17_11.ext hx18
  refine L.val rfl (op_assign rfl rfl) ?_
  refine L.nil ?_
  refine thenF_nor ?_
  refine W.seq ?_
  refine W.seq ?_
  refine W.region (by rfl) ?_
  refine L.val rfl (op_assign rfl rfl) ?_
  refine L.nil ?_
  refine thenF_nor ?_
  refine W.block ?_
  have S19_hR_l := hR_l
  have S19_hR_mm := hR_mm
  have S19_hB1 := hB1
  have S19_hR2 := hR2
  have S19_hR3 := hR3
  have S19_hR17_10 := hR17_10
  have S19_hR17_11 := hR17_11
  have S19_hE := hE
  have hS19 : Ext w18 w18 := Ext.refl _
  refine W.loopg (γ := Nat) (fun (i : Nat) (f : Fr) (ww : World) => i ≤ (outcomes_f m parent (l.take 250) slot).length ∧ f 0 = (.int .i64 m) ∧ f 2 = (.slice A2 (l.take 250).length c2) ∧ f 3 = (.slice A3 (mm.take 250).length c3) ∧ f 6 = (.pointer (some ⟨b1, 0, none⟩)) ∧ f 11 = (.slice A17_10 (outcomes_f m parent (l.take 250) slot).length c17_10) ∧ f 12 = (.slice A17_11 (outcomes_f m parent (mm.take 250) slot).length c17_11) ∧ f 13 = (.int .i64 (size_f m)) ∧ f 14 = (.int .i64 ((i : Nat) : Int)) ∧ Ext w18 ww) (fun (i : Nat) => (outcomes_f m parent (l.take 250) slot).length - i) 0 ⟨(by (try dsimp only); omega), s0, s2, s3, s6, e17_10, e17_11, rfl, rfl, hS19⟩ ?_
  rintro i f20 w20 ⟨hi, s20_0, s20_2, s20_3, s20_6, s20_11, s20_12, s20_13, s20_14, hS19⟩
  have hR_l := S19_hR_l.ext hS19
  have hR_mm := S19_hR_mm.ext hS19
  have hB1 := S19_hB1.ext hS19
  have hR2 := S19_hR2.ext hS19
  have hR3 := S19_hR3.ext hS19
  have hR17_10 := S19_hR17_10.ext hS19
  have hR17_11 := S19_hR17_11.ext hS19
  have hE := S19_hE.trans hS19
  refine W.seq ?_
  refine W.seq ?_
  refine W.region (by rfl) ?_
  refine L.val rfl (op_move rfl s20_14) ?_
  refine L.val rfl (op_move rfl s20_11) ?_
  refine L.val rfl (op_len rfl rfl ln37) ?_
  refine L.val rfl (op_lss rfl rfl rfl) ?_
  refine L.nil ?_
  refine thenF_nor ?_
  refine W.cond (t := decide (((i : Nat) : Int) < ((outcomes_f m parent (l.take 250) slot).length : Int))) rfl (fun hc21 => ?_) (fun hc21 => ?_)
  · have hp21 := hc21
    simp only [Bool.and_eq_true, Bool.or_eq_true, Bool.and_eq_false_iff, Bool.or_eq_false_iff, Bool.not_eq_true', Bool.not_eq_false', decide_eq_true_eq, decide_eq_false_iff_not] at hp21
    refine W.skip ?_
    refine thenF_nor ?_
    refine W.seq ?_
    refine W.block ?_
    refine W.seq ?_
    refine W.region (by rfl) ?_
    refine L.val rfl (op_assign rfl rfl) ?_
    refine L.nil ?_
    refine thenF_nor ?_
    refine W.block ?_
    have S22_hR_l := hR_l
    have S22_hR_mm := hR_mm
    have S22_hB1 := hB1
    have S22_hR2 := hR2
    have S22_hR3 := hR3
    have S22_hR17_10 := hR17_10
    have S22_hR17_11 := hR17_11
    have S22_hE := hE
    have S22_hS19 := hS19
    have hS22 : Ext w20 w20 := Ext.refl _
    refine W.loopg (γ := Nat) (fun (k : Nat) (f : Fr) (ww : World) => k ≤ (outcomes_f m parent (mm.take 250) slot).length ∧ f 0 = (.int .i64 m) ∧ f 2 = (.slice A2 (l.take 250).length c2) ∧ f 3 = (.slice A3 (mm.take 250).length c3) ∧ f 6 = (.pointer (some ⟨b1, 0, none⟩)) ∧ f 11 = (.slice A17_10 (outcomes_f m parent (l.take 250) slot).length c17_10) ∧ f 12 = (.slice A17_11 (outcomes_f m parent (mm.take 250) slot).length c17_11) ∧ f 13 = (.int .i64 (size_f m)) ∧ f 14 = (.int .i64 ((i : Nat) : Int)) ∧ f 42 = (.bool (decide (((i : Nat) : Int) < ((outcomes_f m parent (l.take 250) slot).length : Int)))) ∧ f 15 = (.int .i64 ((k : Nat) : Int)) ∧ Ext w20 ww) (fun (k : Nat) => (outcomes_f m parent (mm.take 250) slot).length - k) 0 ⟨(by (try dsimp only); omega), s20_0, s20_2, s20_3, s20_6, s20_11, s20_12, s20_13, s20_14, rfl, rfl, hS22⟩ ?_
    rintro k f23 w23 ⟨hk, s23_0, s23_2, s23_3, s23_6, s23_11, s23_12, s23_13, s23_14, s23_42, s23_15, hS22⟩
    have hR_l := S22_hR_l.ext hS22
    have hR_mm := S22_hR_mm.ext hS22
    have hB1 := S22_hB1.ext hS22
    have hR2 := S22_hR2.ext hS22
    have hR3 := S22_hR3.ext hS22
    have hR17_10 := S22_hR17_10.ext hS22
    have hR17_11 := S22_hR17_11.ext hS22
    have hE := S22_hE.trans hS22
    have hS19 := S22_hS19.trans hS22
    refine W.seq ?_
    refine W.seq ?_
    refine W.region (by rfl) ?_
    refine L.val rfl (op_move rfl s23_15) ?_
    refine L.val rfl (op_move rfl s23_12) ?_
    refine L.val rfl (op_len rfl rfl ln37) ?_
    refine L.val rfl (op_lss rfl rfl rfl) ?_
    refine L.nil ?_
    refine thenF_nor ?_
    refine W.cond (t := decide (((k : Nat) : Int) < ((outcomes_f m parent (mm.take 250) slot).length : Int))) rfl (fun hc24 => ?_) (fun hc24 => ?_)
    · have hp24 := hc24
      simp only [Bool.and_eq_true, Bool.or_eq_true, Bool.and_eq_false_iff, Bool.or_eq_false_iff, Bool.not_eq_true', Bool.not_eq_false', decide_eq_true_eq, decide_eq_false_iff_not] at hp24
      refine W.skip ?_
      refine thenF_nor ?_
      refine W.seq ?_
      refine W.block ?_
      refine W.seq ?_
      refine W.seq ?_
      refine W.drawS [Sp.eq (.slice A17_10 (outcomes_f m parent (l.take 250) slot).length c17_10), Sp.eq (.int .i64 ((i : Nat) : Int)), Sp.eq (.pointer (some ((adr A17_10).add (i * 11)))), Sp.eq (.pointer (some (((adr A17_10).add (i * 11)).add 2))), Sp.eq (.int .i64 (((outcomes_f m parent (l.take 250) slot)[i]!).choice)), Sp.eq (.slice A17_11 (outcomes_f m parent (mm.take 250) slot).length c17_11), Sp.eq (.int .i64 ((k : Nat) : Int)), Sp.eq (.pointer (some ((adr A17_11).add (k * 11)))), Sp.eq (.pointer (some (((adr A17_11).add (k * 11)).add 2))), Sp.eq (.int .i64 (((outcomes_f m parent (mm.take 250) slot)[k]!).choice)), Sp.eq (.bool (decide ((((outcomes_f m parent (l.take 250) slot)[i]!).choice) = (((outcomes_f m parent (mm.take 250) slot)[k]!).choice)))), Sp.eq (.bool (decide ((((outcomes_f m parent (l.take 250) slot)[i]!).choice) = (((outcomes_f m parent (mm.take 250) slot)[k]!).choice)))), Sp.eq (vif (decide ((((outcomes_f m parent (l.take 250) slot)[i]!).choice) = (((outcomes_f m parent (mm.take 250) slot)[k]!).choice))) (.slice A17_10 (outcomes_f m parent (l.take 250) slot).length c17_10)), Sp.eq (vif (decide ((((outcomes_f m parent (l.take 250) slot)[i]!).choice) = (((outcomes_f m parent (mm.take 250) slot)[k]!).choice))) (.int .i64 ((i : Nat) : Int))), Sp.eq (vif (decide ((((outcomes_f m parent (l.take 250) slot)[i]!).choice) = (((outcomes_f m parent (mm.take 250) slot)[k]!).choice))) (.pointer (some ((adr A17_10).add (i * 11))))), Sp.eq (vif (decide ((((outcomes_f m parent (l.take 250) slot)[i]!).choice) = (((outcomes_f m parent (mm.take 250) slot)[k]!).choice))) (.pointer (some (((adr A17_10).add (i * 11)).add 3)))), Sp.eq (vif (decide ((((outcomes_f m parent (l.take 250) slot)[i]!).choice) = (((outcomes_f m parent (mm.take 250) slot)[k]!).choice))) (Enc.val (((outcomes_f m parent (l.take 250) slot)[i]!).value))), Sp.eq (vif (decide ((((outcomes_f m parent (l.take 250) slot)[i]!).choice) = (((outcomes_f m parent (mm.take 250) slot)[k]!).choice))) (.slice A17_11 (outcomes_f m parent (mm.take 250) slot).length c17_11)), Sp.eq (vif (decide ((((outcomes_f m parent (l.take 250) slot)[i]!).choice) = (((outcomes_f m parent (mm.take 250) slot)[k]!).choice))) (.int .i64 ((k : Nat) : Int))), Sp.eq (vif (decide ((((outcomes_f m parent (l.take 250) slot)[i]!).choice) = (((outcomes_f m parent (mm.take 250) slot)[k]!).choice))) (.pointer (some ((adr A17_11).add (k * 11))))), Sp.eq (vif (decide ((((outcomes_f m parent (l.take 250) slot)[i]!).choice) = (((outcomes_f m parent (mm.take 250) slot)[k]!).choice))) (.pointer (some (((adr A17_11).add (k * 11)).add 3)))), Sp.eq (vif (decide ((((outcomes_f m parent (l.take 250) slot)[i]!).choice) = (((outcomes_f m parent (mm.take 250) slot)[k]!).choice))) (Enc.val (((outcomes_f m parent (mm.take 250) slot)[k]!).value))), Sp.eq (vif (decide ((((outcomes_f m parent (l.take 250) slot)[i]!).choice) = (((outcomes_f m parent (mm.take 250) slot)[k]!).choice))) (.bool (decide (((outcomes_f m parent (l.take 250) slot)[i]!).value = ((outcomes_f m parent (mm.take 250) slot)[k]!).value)))), Sp.eq (.bool ((decide ((((outcomes_f m parent (l.take 250) slot)[i]!).choice) = (((outcomes_f m parent (mm.take 250) slot)[k]!).choice))) && (decide (((outcomes_f m parent (l.take 250) slot)[i]!).value = ((outcomes_f m parent (mm.take 250) slot)[k]!).value))))] mixed (by rfl) (Obls.cons ?_ (Obls.cons ?_ (Obls.cons ?_ (Obls.cons ?_ (Obls.cons ?_ (Obls.cons ?_ (Obls.cons ?_ (Obls.cons ?_ (Obls.cons ?_ (Obls.cons ?_ (Obls.cons ?_ (Obls.cons ?_ (Obls.cons ?_ (Obls.cons ?_ (Obls.cons ?_ (Obls.cons ?_ (Obls.cons ?_ (Obls.cons ?_ (Obls.cons ?_ (Obls.cons ?_ (Obls.cons ?_ (Obls.cons ?_ (Obls.cons ?_ (Obls.cons ?_ Obls.nil)))))))))))))))))))))))) ?_
      · intro f26 w26 hx26 ho26 hd26
        have d26_s11 : f26 11 = (.slice A17_10 (outcomes_f m parent (l.take 250) slot).length c17_10) := (ho26 11 rfl).trans s23_11
        exact D.val rfl (op_move rfl d26_s11)
      · intro f27 w27 hx27 ho27 hd27
        have d27_s14 : f27 14 = (.int .i64 ((i : Nat) : Int)) := (ho27 14 rfl).trans s23_14
        exact D.val rfl (op_move rfl d27_s14)
      · intro f28 w28 hx28 ho28 hd28
        have d28_0 : f28 51 = (.slice A17_10 (outcomes_f m parent (l.take 250) slot).length c17_10) := hd28 0 rfl
        have d28_1 : f28 52 = (.int .i64 ((i : Nat) : Int)) := hd28 1 rfl
        have hR_l := hR_l.ext hx28
        have hR_mm := hR_mm.ext hx28
        have hB1 := hB1.ext hx28
        have hR2 := hR2.ext hx28
        have hR3 := hR3.ext hx28
        have hR17_10 := hR17_10.ext hx28
        have hR17_11 := hR17_11.ext hx28
        skip
        exact D.val rfl (op_index (k := i) rfl d28_0 d28_1 sl37 (hR17_10.getA (get_bang (l := outcomes_f m parent (l.take 250) slot) (k := i) (by omega))).1 rfl (by omega) rfl)
      · intro f29 w29 hx29 ho29 hd29
        have d29_2 : f29 53 = (.pointer (some ((adr A17_10).add (i * 11)))) := hd29 2 rfl
        exact D.val rfl (op_field rfl d29_2 fo49_2 rfl)
      · intro f30 w30 hx30 ho30 hd30
        have d30_3 : f30 54 = (.pointer (some (((adr A17_10).add (i * 11)).add 2))) := hd30 3 rfl
        have hR_l := hR_l.ext hx30
        have hR_mm := hR_mm.ext hx30
        have hB1 := hB1.ext hx30
        have hR2 := hR2.ext hx30
        have hR3 := hR3.ext hx30
        have hR17_10 := hR17_10.ext hx30
        have hR17_11 := hR17_11.ext hx30
        skip
        exact D.val rfl (op_load1 rfl d30_3 one3 ((hR17_10.getA (get_bang (l := outcomes_f m parent (l.take 250) slot) (k := i) (by omega))).2.one (n := 2) rfl))
      · intro f31 w31 hx31 ho31 hd31
        have d31_s12 : f31 12 = (.slice A17_11 (outcomes_f m parent (mm.take 250) slot).length c17_11) := (ho31 12 rfl).trans s23_12
        exact D.val rfl (op_move rfl d31_s12)
      · intro f32 w32 hx32 ho32 hd32
        have d32_s15 : f32 15 = (.int .i64 ((k : Nat) : Int)) := (ho32 15 rfl).trans s23_15
        exact D.val rfl (op_move rfl d32_s15)
      · intro f33 w33 hx33 ho33 hd33
        have d33_5 : f33 56 = (.slice A17_11 (outcomes_f m parent (mm.take 250) slot).length c17_11) := hd33 5 rfl
        have d33_6 : f33 57 = (.int .i64 ((k : Nat) : Int)) := hd33 6 rfl
        have hR_l := hR_l.ext hx33
        have hR_mm := hR_mm.ext hx33
        have hB1 := hB1.ext hx33
        have hR2 := hR2.ext hx33
        have hR3 := hR3.ext hx33
        have hR17_10 := hR17_10.ext hx33
        have hR17_11 := hR17_11.ext hx33
        skip
        exact D.val rfl (op_index (k := k) rfl d33_5 d33_6 sl37 (hR17_11.getA (get_bang (l := outcomes_f m parent (mm.take 250) slot) (k := k) (by omega))).1 rfl (by omega) rfl)
      · intro f34 w34 hx34 ho34 hd34
        have d34_7 : f34 58 = (.pointer (some ((adr A17_11).add (k * 11)))) := hd34 7 rfl
        exact D.val rfl (op_field rfl d34_7 fo49_2 rfl)
      · intro f35 w35 hx35 ho35 hd35
        have d35_8 : f35 59 = (.pointer (some (((adr A17_11).add (k * 11)).add 2))) := hd35 8 rfl
        have hR_l := hR_l.ext hx35
        have hR_mm := hR_mm.ext hx35
        have hB1 := hB1.ext hx35
        have hR2 := hR2.ext hx35
        have hR3 := hR3.ext hx35
        have hR17_10 := hR17_10.ext hx35
        have hR17_11 := hR17_11.ext hx35
        skip
        exact D.val rfl (op_load1 rfl d35_8 one3 ((hR17_11.getA (get_bang (l := outcomes_f m parent (mm.take 250) slot) (k := k) (by omega))).2.one (n := 2) rfl))
      · intro f36 w36 hx36 ho36 hd36
        have d36_4 : f36 55 = (.int .i64 (((outcomes_f m parent (l.take 250) slot)[i]!).choice)) := hd36 4 rfl
        have d36_9 : f36 60 = (.int .i64 (((outcomes_f m parent (mm.take 250) slot)[k]!).choice)) := hd36 9 rfl
        exact D.val rfl (op_eql rfl d36_4 d36_9)
      · intro f37 w37 hx37 ho37 hd37
        have d37_10 : f37 61 = (.bool (decide ((((outcomes_f m parent (l.take 250) slot)[i]!).choice) = (((outcomes_f m parent (mm.take 250) slot)[k]!).choice)))) := hd37 10 rfl
        exact D.val rfl (op_move rfl d37_10)
      · intro f38 w38 hx38 ho38 hd38
        have d38_s11 : f38 11 = (.slice A17_10 (outcomes_f m parent (l.take 250) slot).length c17_10) := (ho38 11 rfl).trans s23_11
        have d38_11 : f38 62 = (.bool (decide ((((outcomes_f m parent (l.take 250) slot)[i]!).choice) = (((outcomes_f m parent (mm.take 250) slot)[k]!).choice)))) := hd38 11 rfl
        exact D.guardv (wanted_yes rfl rfl d38_11) (fun hg => (op_move rfl d38_s11))
      · intro f39 w39 hx39 ho39 hd39
        have d39_s14 : f39 14 = (.int .i64 ((i : Nat) : Int)) := (ho39 14 rfl).trans s23_14
        have d39_11 : f39 62 = (.bool (decide ((((outcomes_f m parent (l.take 250) slot)[i]!).choice) = (((outcomes_f m parent (mm.take 250) slot)[k]!).choice)))) := hd39 11 rfl
        exact D.guardv (wanted_yes rfl rfl d39_11) (fun hg => (op_move rfl d39_s14))
      · intro f40 w40 hx40 ho40 hd40
        have d40_11 : f40 62 = (.bool (decide ((((outcomes_f m parent (l.take 250) slot)[i]!).choice) = (((outcomes_f m parent (mm.take 250) slot)[k]!).choice)))) := hd40 11 rfl
        have d40_12 : f40 63 = (vif (decide ((((outcomes_f m parent (l.take 250) slot)[i]!).choice) = (((outcomes_f m parent (mm.take 250) slot)[k]!).choice))) (.slice A17_10 (outcomes_f m parent (l.take 250) slot).length c17_10)) := hd40 12 rfl
        have d40_13 : f40 64 = (vif (decide ((((outcomes_f m parent (l.take 250) slot)[i]!).choice) = (((outcomes_f m parent (mm.take 250) slot)[k]!).choice))) (.int .i64 ((i : Nat) : Int))) := hd40 13 rfl
        have hR_l := hR_l.ext hx40
        have hR_mm := hR_mm.ext hx40
        have hB1 := hB1.ext hx40
        have hR2 := hR2.ext hx40
        have hR3 := hR3.ext hx40
        have hR17_10 := hR17_10.ext hx40
        have hR17_11 := hR17_11.ext hx40
        exact D.guardv (wanted_yes rfl rfl d40_11) (fun hg => by have hp := hg; (try simp only [Bool.and_eq_true, Bool.or_eq_true, Bool.not_eq_true', decide_eq_true_eq, decide_eq_false_iff_not, bne_iff_ne, beq_iff_eq] at hp); skip; exact (op_index (k := i) rfl ((show _ = vif _ (.slice A17_10 (outcomes_f m parent (l.take 250) slot).length c17_10) from d40_12).trans (vif_t hg).symm) ((show _ = vif _ (.int .i64 ((i : Nat) : Int)) from d40_13).trans (vif_t hg).symm) sl37 (hR17_10.getA (get_bang (l := outcomes_f m parent (l.take 250) slot) (k := i) (by omega))).1 rfl (by omega) rfl))
      · intro f41 w41 hx41 ho41 hd41
        have d41_11 : f41 62 = (.bool (decide ((((outcomes_f m parent (l.take 250) slot)[i]!).choice) = (((outcomes_f m parent (mm.take 250) slot)[k]!).choice)))) := hd41 11 rfl
        have d41_14 : f41 65 = (vif (decide ((((outcomes_f m parent (l.take 250) slot)[i]!).choice) = (((outcomes_f m parent (mm.take 250) slot)[k]!).choice))) (.pointer (some ((adr A17_10).add (i * 11))))) := hd41 14 rfl
        exact D.guardv (wanted_yes rfl rfl d41_11) (fun hg => (op_field rfl ((show _ = vif _ (.pointer (some ((adr A17_10).add (i * 11)))) from d41_14).trans (vif_t hg).symm) fo49_3 rfl))
      · intro f42 w42 hx42 ho42 hd42
        have d42_11 : f42 62 = (.bool (decide ((((outcomes_f m parent (l.take 250) slot)[i]!).choice) = (((outcomes_f m parent (mm.take 250) slot)[k]!).choice)))) := hd42 11 rfl
        have d42_15 : f42 66 = (vif (decide ((((outcomes_f m parent (l.take 250) slot)[i]!).choice) = (((outcomes_f m parent (mm.take 250) slot)[k]!).choice))) (.pointer (some (((adr A17_10).add (i * 11)).add 3)))) := hd42 15 rfl
        have hR_l := hR_l.ext hx42
        have hR_mm := hR_mm.ext hx42
        have hB1 := hB1.ext hx42
        have hR2 := hR2.ext hx42
        have hR3 := hR3.ext hx42
        have hR17_10 := hR17_10.ext hx42
        have hR17_11 := hR17_11.ext hx42
        exact D.guardv (wanted_yes rfl rfl d42_11) (fun hg => by have hp := hg; (try simp only [Bool.and_eq_true, Bool.or_eq_true, Bool.not_eq_true', decide_eq_true_eq, decide_eq_false_iff_not, bne_iff_ne, beq_iff_eq] at hp); skip; exact (op_load (v := (((outcomes_f m parent (l.take 250) slot)[i]!).value : Nm)) rfl ((show _ = vif _ (.pointer (some (((adr A17_10).add (i * 11)).add 3))) from d42_15).trans (vif_t hg).symm) ty24 (sub_nm 3 (hR17_10.getA (get_bang (l := outcomes_f m parent (l.take 250) slot) (k := i) (by omega))).2 rfl)))
      · intro f43 w43 hx43 ho43 hd43
        have d43_s12 : f43 12 = (.slice A17_11 (outcomes_f m parent (mm.take 250) slot).length c17_11) := (ho43 12 rfl).trans s23_12
        have d43_11 : f43 62 = (.bool (decide ((((outcomes_f m parent (l.take 250) slot)[i]!).choice) = (((outcomes_f m parent (mm.take 250) slot)[k]!).choice)))) := hd43 11 rfl
        exact D.guardv (wanted_yes rfl rfl d43_11) (fun hg => (op_move rfl d43_s12))
      · intro f44 w44 hx44 ho44 hd44
        have d44_s15 : f44 15 = (.int .i64 ((k : Nat) : Int)) := (ho44 15 rfl).trans s23_15
        have d44_11 : f44 62 = (.bool (decide ((((outcomes_f m parent (l.take 250) slot)[i]!).choice) = (((outcomes_f m parent (mm.take 250) slot)[k]!).choice)))) := hd44 11 rfl
        exact D.guardv (wanted_yes rfl rfl d44_11) (fun hg => (op_move rfl d44_s15))
      · intro f45 w45 hx45 ho45 hd45
        have d45_11 : f45 62 = (.bool (decide ((((outcomes_f m parent (l.take 250) slot)[i]!).choice) = (((outcomes_f m parent (mm.take 250) slot)[k]!).choice)))) := hd45 11 rfl
        have d45_17 : f45 68 = (vif (decide ((((outcomes_f m parent (l.take 250) slot)[i]!).choice) = (((outcomes_f m parent (mm.take 250) slot)[k]!).choice))) (.slice A17_11 (outcomes_f m parent (mm.take 250) slot).length c17_11)) := hd45 17 rfl
        have d45_18 : f45 69 = (vif (decide ((((outcomes_f m parent (l.take 250) slot)[i]!).choice) = (((outcomes_f m parent (mm.take 250) slot)[k]!).choice))) (.int .i64 ((k : Nat) : Int))) := hd45 18 rfl
        have hR_l := hR_l.ext hx45
        have hR_mm := hR_mm.ext hx45
        have hB1 := hB1.ext hx45
        have hR2 := hR2.ext hx45
        have hR3 := hR3.ext hx45
        have hR17_10 := hR17_10.ext hx45
        have hR17_11 := hR17_11.ext hx45
        exact D.guardv (wanted_yes rfl rfl d45_11) (fun hg => by have hp := hg; (try simp only [Bool.and_eq_true, Bool.or_eq_true, Bool.not_eq_true', decide_eq_true_eq, decide_eq_false_iff_not, bne_iff_ne, beq_iff_eq] at hp); skip; exact (op_index (k := k) rfl ((show _ = vif _ (.slice A17_11 (outcomes_f m parent (mm.take 250) slot).length c17_11) from d45_17).trans (vif_t hg).symm) ((show _ = vif _ (.int .i64 ((k : Nat) : Int)) from d45_18).trans (vif_t hg).symm) sl37 (hR17_11.getA (get_bang (l := outcomes_f m parent (mm.take 250) slot) (k := k) (by omega))).1 rfl (by omega) rfl))
      · intro f46 w46 hx46 ho46 hd46
        have d46_11 : f46 62 = (.bool (decide ((((outcomes_f m parent (l.take 250) slot)[i]!).choice) = (((outcomes_f m parent (mm.take 250) slot)[k]!).choice)))) := hd46 11 rfl
        have d46_19 : f46 70 = (vif (decide ((((outcomes_f m parent (l.take 250) slot)[i]!).choice) = (((outcomes_f m parent (mm.take 250) slot)[k]!).choice))) (.pointer (some ((adr A17_11).add (k * 11))))) := hd46 19 rfl
        exact D.guardv (wanted_yes rfl rfl d46_11) (fun hg => (op_field rfl ((show _ = vif _ (.pointer (some ((adr A17_11).add (k * 11)))) from d46_19).trans (vif_t hg).symm) fo49_3 rfl))
      · intro f47 w47 hx47 ho47 hd47
        have d47_11 : f47 62 = (.bool (decide ((((outcomes_f m parent (l.take 250) slot)[i]!).choice) = (((outcomes_f m parent (mm.take 250) slot)[k]!).choice)))) := hd47 11 rfl
        have d47_20 : f47 71 = (vif (decide ((((outcomes_f m parent (l.take 250) slot)[i]!).choice) = (((outcomes_f m parent (mm.take 250) slot)[k]!).choice))) (.pointer (some (((adr A17_11).add (k * 11)).add 3)))) := hd47 20 rfl
        have hR_l := hR_l.ext hx47
        have hR_mm := hR_mm.ext hx47
        have hB1 := hB1.ext hx47
        have hR2 := hR2.ext hx47
        have hR3 := hR3.ext hx47
        have hR17_10 := hR17_10.ext hx47
        have hR17_11 := hR17_11.ext hx47
        exact D.guardv (wanted_yes rfl rfl d47_11) (fun hg => by have hp := hg; (try simp only [Bool.and_eq_true, Bool.or_eq_true, Bool.not_eq_true', decide_eq_true_eq, decide_eq_false_iff_not, bne_iff_ne, beq_iff_eq] at hp); skip; exact (op_load (v := (((outcomes_f m parent (mm.take 250) slot)[k]!).value : Nm)) rfl ((show _ = vif _ (.pointer (some (((adr A17_11).add (k * 11)).add 3))) from d47_20).trans (vif_t hg).symm) ty24 (sub_nm 3 (hR17_11.getA (get_bang (l := outcomes_f m parent (mm.take 250) slot) (k := k) (by omega))).2 rfl)))
      · intro f48 w48 hx48 ho48 hd48
        have d48_11 : f48 62 = (.bool (decide ((((outcomes_f m parent (l.take 250) slot)[i]!).choice) = (((outcomes_f m parent (mm.take 250) slot)[k]!).choice)))) := hd48 11 rfl
        have d48_16 : f48 67 = (vif (decide ((((outcomes_f m parent (l.take 250) slot)[i]!).choice) = (((outcomes_f m parent (mm.take 250) slot)[k]!).choice))) (Enc.val (((outcomes_f m parent (l.take 250) slot)[i]!).value))) := hd48 16 rfl
        have d48_21 : f48 72 = (vif (decide ((((outcomes_f m parent (l.take 250) slot)[i]!).choice) = (((outcomes_f m parent (mm.take 250) slot)[k]!).choice))) (Enc.val (((outcomes_f m parent (mm.take 250) slot)[k]!).value))) := hd48 21 rfl
        exact D.guardv (wanted_yes rfl rfl d48_11) (fun hg => (op_eqle (a := (((outcomes_f m parent (l.take 250) slot)[i]!).value : Nm)) (b := (((outcomes_f m parent (mm.take 250) slot)[k]!).value : Nm)) rfl ((show _ = vif _ (Enc.val (((outcomes_f m parent (l.take 250) slot)[i]!).value)) from d48_16).trans (vif_t hg).symm) ((show _ = vif _ (Enc.val (((outcomes_f m parent (mm.take 250) slot)[k]!).value)) from d48_21).trans (vif_t hg).symm) eq24 (fun _ => ⟨_, rfl⟩) Try.eqGuardType24))
      · intro f49 w49 hx49 ho49 hd49
        have d49_11 : f49 62 = (.bool (decide ((((outcomes_f m parent (l.take 250) slot)[i]!).choice) = (((outcomes_f m parent (mm.take 250) slot)[k]!).choice)))) := hd49 11 rfl
        have d49_22 : f49 73 = (vif (decide ((((outcomes_f m parent (l.take 250) slot)[i]!).choice) = (((outcomes_f m parent (mm.take 250) slot)[k]!).choice))) (.bool (decide (((outcomes_f m parent (l.take 250) slot)[i]!).value = ((outcomes_f m parent (mm.take 250) slot)[k]!).value)))) := hd49 22 rfl
        exact D.val rfl (op_and rfl d49_11 d49_22 rfl)
      intro f50 w50 hx50 ho50 hr50
      have s0 : f50 0 = (.int .i64 m) := (ho50 0 rfl).trans s23_0
      have s2 : f50 2 = (.slice A2 (l.take 250).length c2) := (ho50 2 rfl).trans s23_2
      have s3 : f50 3 = (.slice A3 (mm.take 250).length c3) := (ho50 3 rfl).trans s23_3
      have s6 : f50 6 = (.pointer (some ⟨b1, 0, none⟩)) := (ho50 6 rfl).trans s23_6
      have s11 : f50 11 = (.slice A17_10 (outcomes_f m parent (l.take 250) slot).length c17_10) := (ho50 11 rfl).trans s23_11
      have s12 : f50 12 = (.slice A17_11 (outcomes_f m parent (mm.take 250) slot).length c17_11) := (ho50 12 rfl).trans s23_12
      have s13 : f50 13 = (.int .i64 (size_f m)) := (ho50 13 rfl).trans s23_13
      have s14 : f50 14 = (.int .i64 ((i : Nat) : Int)) := (ho50 14 rfl).trans s23_14
      have s15 : f50 15 = (.int .i64 ((k : Nat) : Int)) := (ho50 15 rfl).trans s23_15
      have s42 : f50 42 = (.bool (decide (((i : Nat) : Int) < ((outcomes_f m parent (l.take 250) slot).length : Int)))) := (ho50 42 rfl).trans s23_42
      have s48 : f50 48 = (.bool (decide (((k : Nat) : Int) < ((outcomes_f m parent (mm.take 250) slot).length : Int)))) := ho50 48 rfl
      have s74 : f50 74 = (.bool ((decide ((((outcomes_f m parent (l.take 250) slot)[i]!).choice) = (((outcomes_f m parent (mm.take 250) slot)[k]!).choice))) && (decide (((outcomes_f m parent (l.take 250) slot)[i]!).value = ((outcomes_f m parent (mm.take 250) slot)[k]!).value)))) := hr50 23 (by decide)
      have hE := hE.trans hx50
      have hS19 := hS19.trans hx50
      have hS22 := hS22.trans hx50
      have hR_l := hR_l.ext hx50
      have hR_mm := hR_mm.ext hx50
      have hB1 := hB1.ext hx50
      have hR2 := hR2.ext hx50
      have hR3 := hR3.ext hx50
      have hR17_10 := hR17_10.ext hx50
      have hR17_11 := hR17_11.ext hx50
      refine thenF_nor ?_
      refine W.cond (t := (decide ((((outcomes_f m parent (l.take 250) slot)[i]!).choice) = (((outcomes_f m parent (mm.take 250) slot)[k]!).choice))) && (decide (((outcomes_f m parent (l.take 250) slot)[i]!).value = ((outcomes_f m parent (mm.take 250) slot)[k]!).value))) s74 (fun hc51 => ?_) (fun hc51 => ?_)
      · have hp51 := hc51
        simp only [Bool.and_eq_true, Bool.or_eq_true, Bool.and_eq_false_iff, Bool.or_eq_false_iff, Bool.not_eq_true', Bool.not_eq_false', decide_eq_true_eq, decide_eq_false_iff_not] at hp51
        refine W.exit ?_
        refine thenF_exit ?_
        refine blockF_hit ?_
        refine thenF_nor ?_
        refine W.region (by rfl) ?_
        refine L.val rfl (op_move rfl s15) ?_
        refine L.val rfl (op_add (c := ((k + 1 : Nat) : Int)) rfl rfl rfl (by omega) (by omega)) ?_
        refine L.val rfl (op_assign rfl rfl) ?_
        refine L.nil ?_
        refine thenF_nor ?_
        exact ⟨k + 1, ⟨(by (try dsimp only); omega), s0, s2, s3, s6, s11, s12, s13, s14, s42, rfl, hS22⟩, (by (try dsimp only); omega)⟩
      · have hp51 := hc51
        simp only [Bool.and_eq_true, Bool.or_eq_true, Bool.and_eq_false_iff, Bool.or_eq_false_iff, Bool.not_eq_true', Bool.not_eq_false', decide_eq_true_eq, decide_eq_false_iff_not] at hp51
        have hne13 := hc51
        refine W.skip ?_
        refine thenF_nor ?_
        refine W.seq ?_
        refine W.drawS [Sp.eq (.int .i64 m), Sp.eq (Enc.val (parent : Nm)), Sp.eq (.slice A2 (l.take 250).length c2), Sp.eq (.slice A17_10 (outcomes_f m parent (l.take 250) slot).length c17_10), Sp.eq (.int .i64 ((i : Nat) : Int)), Sp.eq (.pointer (some ((adr A17_10).add (i * 11)))), Sp.eq (Enc.val ((outcomes_f m parent (l.take 250) slot)[i]!)), Sp.slq (closure_f m parent (l.take 250) ((outcomes_f m parent (l.take 250) slot)[i]!) : List Vt) (decided_f m parent (l.take 250) ((outcomes_f m parent (l.take 250) slot)[i]!)), Sp.slq (closure_f m parent (l.take 250) ((outcomes_f m parent (l.take 250) slot)[i]!) : List Vt) (decided_f m parent (l.take 250) ((outcomes_f m parent (l.take 250) slot)[i]!)), Sp.slr (closure_f m parent (l.take 250) ((outcomes_f m parent (l.take 250) slot)[i]!) : List Vt), Sp.eq (.bool (decided_f m parent (l.take 250) ((outcomes_f m parent (l.take 250) slot)[i]!))), Sp.slr (closure_f m parent (l.take 250) ((outcomes_f m parent (l.take 250) slot)[i]!) : List Vt), Sp.eq (.bool (decided_f m parent (l.take 250) ((outcomes_f m parent (l.take 250) slot)[i]!)))] mixed (by rfl) (Obls.cons ?_ (Obls.cons ?_ (Obls.cons ?_ (Obls.cons ?_ (Obls.cons ?_ (Obls.cons ?_ (Obls.cons ?_ (Obls.cons ?_ (Obls.cons ?_ (Obls.cons ?_ (Obls.cons ?_ (Obls.cons ?_ (Obls.cons ?_ Obls.nil))))))))))))) ?_
        · intro f53 w53 hx53 ho53 hd53
          have d53_s0 : f53 0 = (.int .i64 m) := (ho53 0 rfl).trans s0
          exact D.val rfl (op_move rfl d53_s0)
        · intro f54 w54 hx54 ho54 hd54
          have d54_s6 : f54 6 = (.pointer (some ⟨b1, 0, none⟩)) := (ho54 6 rfl).trans s6
          have hR_l := hR_l.ext hx54
          have hR_mm := hR_mm.ext hx54
          have hB1 := hB1.ext hx54
          have hR2 := hR2.ext hx54
          have hR3 := hR3.ext hx54
          have hR17_10 := hR17_10.ext hx54
          have hR17_11 := hR17_11.ext hx54
          exact D.val rfl (op_load (v := (parent : Nm)) rfl d54_s6 ty24 hB1.cells)
        · intro f55 w55 hx55 ho55 hd55
          have d55_s2 : f55 2 = (.slice A2 (l.take 250).length c2) := (ho55 2 rfl).trans s2
          exact D.val rfl (op_move rfl d55_s2)
        · intro f56 w56 hx56 ho56 hd56
          have d56_s11 : f56 11 = (.slice A17_10 (outcomes_f m parent (l.take 250) slot).length c17_10) := (ho56 11 rfl).trans s11
          exact D.val rfl (op_move rfl d56_s11)
        · intro f57 w57 hx57 ho57 hd57
          have d57_s14 : f57 14 = (.int .i64 ((i : Nat) : Int)) := (ho57 14 rfl).trans s14
          exact D.val rfl (op_move rfl d57_s14)
        · intro f58 w58 hx58 ho58 hd58
          have d58_3 : f58 79 = (.slice A17_10 (outcomes_f m parent (l.take 250) slot).length c17_10) := hd58 3 rfl
          have d58_4 : f58 80 = (.int .i64 ((i : Nat) : Int)) := hd58 4 rfl
          have hR_l := hR_l.ext hx58
          have hR_mm := hR_mm.ext hx58
          have hB1 := hB1.ext hx58
          have hR2 := hR2.ext hx58
          have hR3 := hR3.ext hx58
          have hR17_10 := hR17_10.ext hx58
          have hR17_11 := hR17_11.ext hx58
          skip
          exact D.val rfl (op_index (k := i) rfl d58_3 d58_4 sl37 (hR17_10.getA (get_bang (l := outcomes_f m parent (l.take 250) slot) (k := i) (by omega))).1 rfl (by omega) rfl)
        · intro f59 w59 hx59 ho59 hd59
          have d59_5 : f59 81 = (.pointer (some ((adr A17_10).add (i * 11)))) := hd59 5 rfl
          have hR_l := hR_l.ext hx59
          have hR_mm := hR_mm.ext hx59
          have hB1 := hB1.ext hx59
          have hR2 := hR2.ext hx59
          have hR3 := hR3.ext hx59
          have hR17_10 := hR17_10.ext hx59
          have hR17_11 := hR17_11.ext hx59
          skip
          exact D.val rfl (op_load (v := (outcomes_f m parent (l.take 250) slot)[i]!) rfl d59_5 ty49 (hR17_10.getA (get_bang (l := outcomes_f m parent (l.take 250) slot) (k := i) (by omega))).2)
        · intro f60 w60 hx60 ho60 hd60
          have d60_0 : f60 76 = (.int .i64 m) := hd60 0 rfl
          have d60_1 : f60 77 = (Enc.val (parent : Nm)) := hd60 1 rfl
          have d60_2 : f60 78 = (.slice A2 (l.take 250).length c2) := hd60 2 rfl
          have d60_6 : f60 82 = (Enc.val ((outcomes_f m parent (l.take 250) slot)[i]!)) := hd60 6 rfl
          have hR_l := hR_l.ext hx60
          have hR_mm := hR_mm.ext hx60
          have hB1 := hB1.ext hx60
          have hR2 := hR2.ext hx60
          have hR3 := hR3.ext hx60
          have hR17_10 := hR17_10.ext hx60
          have hR17_11 := hR17_11.ext hx60
          exact D.call (R := (Sp.slq (closure_f m parent (l.take 250) ((outcomes_f m parent (l.take 250) slot)[i]!) : List Vt) (decided_f m parent (l.take 250) ((outcomes_f m parent (l.take 250) slot)[i]!))).p) rfl (OpS.mono (OpS.call (op_call rfl (argsC d60_0 (argsC d60_1 (argsC d60_2 (argsC d60_6 argsN)))) Try.func47 rfl rfl) (Closure_ok hR2 (by first | omega | (simp only [List.length_drop, List.length_take, List.length_append, List.length_cons, List.length_nil] at *; omega)))) fun _ _ ⟨⟨q, h1, h2⟩, h3⟩ => ⟨⟨q, h1, h2⟩, h3⟩)
        · intro f61 w61 hx61 ho61 hd61
          exact D.call (R := (Sp.slq (closure_f m parent (l.take 250) ((outcomes_f m parent (l.take 250) slot)[i]!) : List Vt) (decided_f m parent (l.take 250) ((outcomes_f m parent (l.take 250) slot)[i]!))).p) rfl (OpS.val (op_move rfl rfl) ⟨hd61 7 rfl, Ext.refl _⟩)
        · intro f62 w62 hx62 ho62 hd62
          obtain ⟨q62_8, e62_8, A62_8, c62_8, lo62_8, hi62_8, rfl, hcap62_8, hR62_8⟩ := hd62 8 rfl
          have hlen62_8 := hR62_8.len
          exact D.call (R := (Sp.slr (closure_f m parent (l.take 250) ((outcomes_f m parent (l.take 250) slot)[i]!) : List Vt)).p) rfl (OpS.val (op_extract rfl e62_8 rfl) ⟨⟨_, _, _, _, rfl, hcap62_8, hR62_8⟩, Ext.refl _⟩)
        · intro f63 w63 hx63 ho63 hd63
          obtain ⟨q63_8, e63_8, A63_8, c63_8, lo63_8, hi63_8, rfl, hcap63_8, hR63_8⟩ := hd63 8 rfl
          have hlen63_8 := hR63_8.len
          exact D.val rfl (op_extract rfl e63_8 rfl)
        · intro f64 w64 hx64 ho64 hd64
          exact D.call (R := (Sp.slr (closure_f m parent (l.take 250) ((outcomes_f m parent (l.take 250) slot)[i]!) : List Vt)).p) rfl (OpS.val (op_assign rfl rfl) ⟨hd64 9 rfl, Ext.refl _⟩)
        · intro f65 w65 hx65 ho65 hd65
          have d65_10 : f65 85 = (.bool (decided_f m parent (l.take 250) ((outcomes_f m parent (l.take 250) slot)[i]!))) := hd65 10 rfl
          exact D.val rfl (op_assign rfl d65_10)
        intro f66 w66 hx66 ho66 hr66
        have s0 : f66 0 = (.int .i64 m) := (ho66 0 rfl).trans s0
        have s2 : f66 2 = (.slice A2 (l.take 250).length c2) := (ho66 2 rfl).trans s2
        have s3 : f66 3 = (.slice A3 (mm.take 250).length c3) := (ho66 3 rfl).trans s3
        have s6 : f66 6 = (.pointer (some ⟨b1, 0, none⟩)) := (ho66 6 rfl).trans s6
        have s11 : f66 11 = (.slice A17_10 (outcomes_f m parent (l.take 250) slot).length c17_10) := (ho66 11 rfl).trans s11
        have s12 : f66 12 = (.slice A17_11 (outcomes_f m parent (mm.take 250) slot).length c17_11) := (ho66 12 rfl).trans s12
        have s13 : f66 13 = (.int .i64 (size_f m)) := (ho66 13 rfl).trans s13
        have s14 : f66 14 = (.int .i64 ((i : Nat) : Int)) := (ho66 14 rfl).trans s14
        have s15 : f66 15 = (.int .i64 ((k : Nat) : Int)) := (ho66 15 rfl).trans s15
        have s42 : f66 42 = (.bool (decide (((i : Nat) : Int) < ((outcomes_f m parent (l.take 250) slot).length : Int)))) := (ho66 42 rfl).trans s42
        have s48 : f66 48 = (.bool (decide (((k : Nat) : Int) < ((outcomes_f m parent (mm.take 250) slot).length : Int)))) := (ho66 48 rfl).trans s48
        have s74 : f66 74 = (.bool ((decide ((((outcomes_f m parent (l.take 250) slot)[i]!).choice) = (((outcomes_f m parent (mm.take 250) slot)[k]!).choice))) && (decide (((outcomes_f m parent (l.take 250) slot)[i]!).value = ((outcomes_f m parent (mm.take 250) slot)[k]!).value)))) := (ho66 74 rfl).trans s74
        obtain ⟨A66_11, c66_11, lo66_11, hi66_11, e66_11, hcap66_11, hR66_11⟩ := hr66 11 (by decide)
        have hlen66_11 := hR66_11.len
        have hE := hE.trans hx66
        have hS19 := hS19.trans hx66
        have hS22 := hS22.trans hx66
        have hR_l := hR_l.ext hx66
        have hR_mm := hR_mm.ext hx66
        have hB1 := hB1.ext hx66
        have hR2 := hR2.ext hx66
        have hR3 := hR3.ext hx66
        have hR17_10 := hR17_10.ext hx66
        have hR17_11 := hR17_11.ext hx66
        refine thenF_nor ?_
        refine W.seq ?_
        refine W.drawS [Sp.eq (.int .i64 m), Sp.eq (Enc.val (parent : Nm)), Sp.eq (.slice A3 (mm.take 250).length c3), Sp.eq (.slice A17_11 (outcomes_f m parent (mm.take 250) slot).length c17_11), Sp.eq (.int .i64 ((k : Nat) : Int)), Sp.eq (.pointer (some ((adr A17_11).add (k * 11)))), Sp.eq (Enc.val ((outcomes_f m parent (mm.take 250) slot)[k]!)), Sp.slq (closure_f m parent (mm.take 250) ((outcomes_f m parent (mm.take 250) slot)[k]!) : List Vt) (decided_f m parent (mm.take 250) ((outcomes_f m parent (mm.take 250) slot)[k]!)), Sp.slq (closure_f m parent (mm.take 250) ((outcomes_f m parent (mm.take 250) slot)[k]!) : List Vt) (decided_f m parent (mm.take 250) ((outcomes_f m parent (mm.take 250) slot)[k]!)), Sp.slr (closure_f m parent (mm.take 250) ((outcomes_f m parent (mm.take 250) slot)[k]!) : List Vt), Sp.eq (.bool (decided_f m parent (mm.take 250) ((outcomes_f m parent (mm.take 250) slot)[k]!))), Sp.slr (closure_f m parent (mm.take 250) ((outcomes_f m parent (mm.take 250) slot)[k]!) : List Vt), Sp.eq (.bool (decided_f m parent (mm.take 250) ((outcomes_f m parent (mm.take 250) slot)[k]!)))] mixed (by rfl) (Obls.cons ?_ (Obls.cons ?_ (Obls.cons ?_ (Obls.cons ?_ (Obls.cons ?_ (Obls.cons ?_ (Obls.cons ?_ (Obls.cons ?_ (Obls.cons ?_ (Obls.cons ?_ (Obls.cons ?_ (Obls.cons ?_ (Obls.cons ?_ Obls.nil))))))))))))) ?_
        · intro f68 w68 hx68 ho68 hd68
          have d68_s0 : f68 0 = (.int .i64 m) := (ho68 0 rfl).trans s0
          exact D.val rfl (op_move rfl d68_s0)
        · intro f69 w69 hx69 ho69 hd69
          have d69_s6 : f69 6 = (.pointer (some ⟨b1, 0, none⟩)) := (ho69 6 rfl).trans s6
          have hR_l := hR_l.ext hx69
          have hR_mm := hR_mm.ext hx69
          have hB1 := hB1.ext hx69
          have hR2 := hR2.ext hx69
          have hR3 := hR3.ext hx69
          have hR17_10 := hR17_10.ext hx69
          have hR17_11 := hR17_11.ext hx69
          have hR66_11 := hR66_11.ext hx69
          exact D.val rfl (op_load (v := (parent : Nm)) rfl d69_s6 ty24 hB1.cells)
        · intro f70 w70 hx70 ho70 hd70
          have d70_s3 : f70 3 = (.slice A3 (mm.take 250).length c3) := (ho70 3 rfl).trans s3
          exact D.val rfl (op_move rfl d70_s3)
        · intro f71 w71 hx71 ho71 hd71
          have d71_s12 : f71 12 = (.slice A17_11 (outcomes_f m parent (mm.take 250) slot).length c17_11) := (ho71 12 rfl).trans s12
          exact D.val rfl (op_move rfl d71_s12)
        · intro f72 w72 hx72 ho72 hd72
          have d72_s15 : f72 15 = (.int .i64 ((k : Nat) : Int)) := (ho72 15 rfl).trans s15
          exact D.val rfl (op_move rfl d72_s15)
        · intro f73 w73 hx73 ho73 hd73
          have d73_3 : f73 90 = (.slice A17_11 (outcomes_f m parent (mm.take 250) slot).length c17_11) := hd73 3 rfl
          have d73_4 : f73 91 = (.int .i64 ((k : Nat) : Int)) := hd73 4 rfl
          have hR_l := hR_l.ext hx73
          have hR_mm := hR_mm.ext hx73
          have hB1 := hB1.ext hx73
          have hR2 := hR2.ext hx73
          have hR3 := hR3.ext hx73
          have hR17_10 := hR17_10.ext hx73
          have hR17_11 := hR17_11.ext hx73
          have hR66_11 := hR66_11.ext hx73
          skip
          exact D.val rfl (op_index (k := k) rfl d73_3 d73_4 sl37 (hR17_11.getA (get_bang (l := outcomes_f m parent (mm.take 250) slot) (k := k) (by omega))).1 rfl (by omega) rfl)
        · intro f74 w74 hx74 ho74 hd74
          have d74_5 : f74 92 = (.pointer (some ((adr A17_11).add (k * 11)))) := hd74 5 rfl
          have hR_l := hR_l.ext hx74
          have hR_mm := hR_mm.ext hx74
          have hB1 := hB1.ext hx74
          have hR2 := hR2.ext hx74
          have hR3 := hR3.ext hx74
          have hR17_10 := hR17_10.ext hx74
          have hR17_11 := hR17_11.ext hx74
          have hR66_11 := hR66_11.ext hx74
          skip
          exact D.val rfl (op_load (v := (outcomes_f m parent (mm.take 250) slot)[k]!) rfl d74_5 ty49 (hR17_11.getA (get_bang (l := outcomes_f m parent (mm.take 250) slot) (k := k) (by omega))).2)
        · intro f75 w75 hx75 ho75 hd75
          have d75_0 : f75 87 = (.int .i64 m) := hd75 0 rfl
          have d75_1 : f75 88 = (Enc.val (parent : Nm)) := hd75 1 rfl
          have d75_2 : f75 89 = (.slice A3 (mm.take 250).length c3) := hd75 2 rfl
          have d75_6 : f75 93 = (Enc.val ((outcomes_f m parent (mm.take 250) slot)[k]!)) := hd75 6 rfl
          have hR_l := hR_l.ext hx75
          have hR_mm := hR_mm.ext hx75
          have hB1 := hB1.ext hx75
          have hR2 := hR2.ext hx75
          have hR3 := hR3.ext hx75
          have hR17_10 := hR17_10.ext hx75
          have hR17_11 := hR17_11.ext hx75
          have hR66_11 := hR66_11.ext hx75
          exact D.call (R := (Sp.slq (closure_f m parent (mm.take 250) ((outcomes_f m parent (mm.take 250) slot)[k]!) : List Vt) (decided_f m parent (mm.take 250) ((outcomes_f m parent (mm.take 250) slot)[k]!))).p) rfl (OpS.mono (OpS.call (op_call rfl (argsC d75_0 (argsC d75_1 (argsC d75_2 (argsC d75_6 argsN)))) Try.func47 rfl rfl) (Closure_ok hR3 (by first | omega | (simp only [List.length_drop, List.length_take, List.length_append, List.length_cons, List.length_nil] at *; omega)))) fun _ _ ⟨⟨q, h1, h2⟩, h3⟩ => ⟨⟨q, h1, h2⟩, h3⟩)
        · intro f76 w76 hx76 ho76 hd76
          exact D.call (R := (Sp.slq (closure_f m parent (mm.take 250) ((outcomes_f m parent (mm.take 250) slot)[k]!) : List Vt) (decided_f m parent (mm.take 250) ((outcomes_f m parent (mm.take 250) slot)[k]!))).p) rfl (OpS.val (op_move rfl rfl) ⟨hd76 7 rfl, Ext.refl _⟩)
        · intro f77 w77 hx77 ho77 hd77
          obtain ⟨q77_8, e77_8, A77_8, c77_8, lo77_8, hi77_8, rfl, hcap77_8, hR77_8⟩ := hd77 8 rfl
          have hlen77_8 := hR77_8.len
          exact D.call (R := (Sp.slr (closure_f m parent (mm.take 250) ((outcomes_f m parent (mm.take 250) slot)[k]!) : List Vt)).p) rfl (OpS.val (op_extract rfl e77_8 rfl) ⟨⟨_, _, _, _, rfl, hcap77_8, hR77_8⟩, Ext.refl _⟩)
        · intro f78 w78 hx78 ho78 hd78
          obtain ⟨q78_8, e78_8, A78_8, c78_8, lo78_8, hi78_8, rfl, hcap78_8, hR78_8⟩ := hd78 8 rfl
          have hlen78_8 := hR78_8.len
          exact D.val rfl (op_extract rfl e78_8 rfl)
        · intro f79 w79 hx79 ho79 hd79
          exact D.call (R := (Sp.slr (closure_f m parent (mm.take 250) ((outcomes_f m parent (mm.take 250) slot)[k]!) : List Vt)).p) rfl (OpS.val (op_assign rfl rfl) ⟨hd79 9 rfl, Ext.refl _⟩)
        · intro f80 w80 hx80 ho80 hd80
          have d80_10 : f80 96 = (.bool (decided_f m parent (mm.take 250) ((outcomes_f m parent (mm.take 250) slot)[k]!))) := hd80 10 rfl
          exact D.val rfl (op_assign rfl d80_10)
        intro f81 w81 hx81 ho81 hr81
        have s0 : f81 0 = (.int .i64 m) := (ho81 0 rfl).trans s0
        have s2 : f81 2 = (.slice A2 (l.take 250).length c2) := (ho81 2 rfl).trans s2
        have s3 : f81 3 = (.slice A3 (mm.take 250).length c3) := (ho81 3 rfl).trans s3
        have s6 : f81 6 = (.pointer (some ⟨b1, 0, none⟩)) := (ho81 6 rfl).trans s6
        have s11 : f81 11 = (.slice A17_10 (outcomes_f m parent (l.take 250) slot).length c17_10) := (ho81 11 rfl).trans s11
        have s12 : f81 12 = (.slice A17_11 (outcomes_f m parent (mm.take 250) slot).length c17_11) := (ho81 12 rfl).trans s12
        have s13 : f81 13 = (.int .i64 (size_f m)) := (ho81 13 rfl).trans s13
        have s14 : f81 14 = (.int .i64 ((i : Nat) : Int)) := (ho81 14 rfl).trans s14
        have s15 : f81 15 = (.int .i64 ((k : Nat) : Int)) := (ho81 15 rfl).trans s15
        have s16 : f81 16 = (.slice A66_11 (closure_f m parent (l.take 250) ((outcomes_f m parent (l.take 250) slot)[i]!)).length c66_11) := (ho81 16 rfl).trans e66_11
        have s42 : f81 42 = (.bool (decide (((i : Nat) : Int) < ((outcomes_f m parent (l.take 250) slot).length : Int)))) := (ho81 42 rfl).trans s42
        have s48 : f81 48 = (.bool (decide (((k : Nat) : Int) < ((outcomes_f m parent (mm.take 250) slot).length : Int)))) := (ho81 48 rfl).trans s48
        have s74 : f81 74 = (.bool ((decide ((((outcomes_f m parent (l.take 250) slot)[i]!).choice) = (((outcomes_f m parent (mm.take 250) slot)[k]!).choice))) && (decide (((outcomes_f m parent (l.take 250) slot)[i]!).value = ((outcomes_f m parent (mm.take 250) slot)[k]!).value)))) := (ho81 74 rfl).trans s74
        obtain ⟨A81_11, c81_11, lo81_11, hi81_11, e81_11, hcap81_11, hR81_11⟩ := hr81 11 (by decide)
        have hlen81_11 := hR81_11.len
        have hE := hE.trans hx81
        have hS19 := hS19.trans hx81
        have hS22 := hS22.trans hx81
        have hR_l := hR_l.ext hx81
        have hR_mm := hR_mm.ext hx81
        have hB1 := hB1.ext hx81
        have hR2 := hR2.ext hx81
        have hR3 := hR3.ext hx81
        have hR17_10 := hR17_10.ext hx81
        have hR17_11 := hR17_11.ext hx81
        have hR66_11 := hR66_11.ext hx81
        refine thenF_nor ?_
        refine W.seq ?_
        refine W.region (by rfl) ?_
        refine L.val rfl (op_assign rfl rfl) ?_
        refine L.nil ?_
        refine thenF_nor ?_
        refine W.seq ?_
        refine W.seq ?_
        refine W.region (by rfl) ?_
        refine L.val rfl (op_assign rfl rfl) ?_
        refine L.nil ?_
        refine thenF_nor ?_
        refine W.block ?_
        have S82_hR_l := hR_l
        have S82_hR_mm := hR_mm
        have S82_hB1 := hB1
        have S82_hR2 := hR2
        have S82_hR3 := hR3
        have S82_hR17_10 := hR17_10
        have S82_hR17_11 := hR17_11
        have S82_hR66_11 := hR66_11
        have S82_hR81_11 := hR81_11
        have S82_hE := hE
        have S82_hS19 := hS19
        have S82_hS22 := hS22
        have hS82 : Ext w81 w81 := Ext.refl _
        refine W.loopg (γ := Nat × Int) (fun (g : Nat × Int) (f : Fr) (ww : World) => g.1 ≤ (closure_f m parent (l.take 250) (outcomes_f m parent (l.take 250) slot)[i]!).length ∧ ((closure_f m parent (l.take 250) (outcomes_f m parent (l.take 250) slot)[i]!).take g.1).foldl (fun acc x => (closure_f m parent (mm.take 250) (outcomes_f m parent (mm.take 250) slot)[k]!).foldl (torn13Step x) acc) 0 = g.2 ∧ f 0 = (.int .i64 m) ∧ f 2 = (.slice A2 (l.take 250).length c2) ∧ f 3 = (.slice A3 (mm.take 250).length c3) ∧ f 6 = (.pointer (some ⟨b1, 0, none⟩)) ∧ f 11 = (.slice A17_10 (outcomes_f m parent (l.take 250) slot).length c17_10) ∧ f 12 = (.slice A17_11 (outcomes_f m parent (mm.take 250) slot).length c17_11) ∧ f 13 = (.int .i64 (size_f m)) ∧ f 14 = (.int .i64 ((i : Nat) : Int)) ∧ f 15 = (.int .i64 ((k : Nat) : Int)) ∧ f 16 = (.slice A66_11 (closure_f m parent (l.take 250) ((outcomes_f m parent (l.take 250) slot)[i]!)).length c66_11) ∧ f 18 = (.slice A81_11 (closure_f m parent (mm.take 250) ((outcomes_f m parent (mm.take 250) slot)[k]!)).length c81_11) ∧ f 42 = (.bool (decide (((i : Nat) : Int) < ((outcomes_f m parent (l.take 250) slot).length : Int)))) ∧ f 48 = (.bool (decide (((k : Nat) : Int) < ((outcomes_f m parent (mm.take 250) slot).length : Int)))) ∧ f 74 = (.bool ((decide ((((outcomes_f m parent (l.take 250) slot)[i]!).choice) = (((outcomes_f m parent (mm.take 250) slot)[k]!).choice))) && (decide (((outcomes_f m parent (l.take 250) slot)[i]!).value = ((outcomes_f m parent (mm.take 250) slot)[k]!).value)))) ∧ f 21 = (.int .i64 ((g.1 : Nat) : Int)) ∧ f 20 = (.int .i64 g.2) ∧ Ext w81 ww) (fun (g : Nat × Int) => (closure_f m parent (l.take 250) (outcomes_f m parent (l.take 250) slot)[i]!).length - g.1) (0, 0) ⟨(by (try dsimp only); omega), rfl, s0, s2, s3, s6, s11, s12, s13, s14, s15, s16, e81_11, s42, s48, s74, rfl, rfl, hS82⟩ ?_
        rintro ⟨u, t⟩ f83 w83 ⟨hu, hti, s83_0, s83_2, s83_3, s83_6, s83_11, s83_12, s83_13, s83_14, s83_15, s83_16, s83_18, s83_42, s83_48, s83_74, s83_21, s83_20, hS82⟩
        dsimp only at hu hti s83_0 s83_2 s83_3 s83_6 s83_11 s83_12 s83_13 s83_14 s83_15 s83_16 s83_18 s83_42 s83_48 s83_74 s83_21 s83_20 hS82
        have hR_l := S82_hR_l.ext hS82
        have hR_mm := S82_hR_mm.ext hS82
        have hB1 := S82_hB1.ext hS82
        have hR2 := S82_hR2.ext hS82
        have hR3 := S82_hR3.ext hS82
        have hR17_10 := S82_hR17_10.ext hS82
        have hR17_11 := S82_hR17_11.ext hS82
        have hR66_11 := S82_hR66_11.ext hS82
        have hR81_11 := S82_hR81_11.ext hS82
        have hE := S82_hE.trans hS82
        have hS19 := S82_hS19.trans hS82
        have hS22 := S82_hS22.trans hS82
        refine W.seq ?_
        refine W.seq ?_
        refine W.region (by rfl) ?_
        refine L.val rfl (op_move rfl s83_21) ?_
        refine L.val rfl (op_move rfl s83_16) ?_
        refine L.val rfl (op_len rfl rfl ln25) ?_
        refine L.val rfl (op_lss rfl rfl rfl) ?_
        refine L.nil ?_
        refine thenF_nor ?_
        refine W.cond (t := decide (((u : Nat) : Int) < ((closure_f m parent (l.take 250) ((outcomes_f m parent (l.take 250) slot)[i]!)).length : Int))) rfl (fun hc84 => ?_) (fun hc84 => ?_)
        · have hp84 := hc84
          simp only [Bool.and_eq_true, Bool.or_eq_true, Bool.and_eq_false_iff, Bool.or_eq_false_iff, Bool.not_eq_true', Bool.not_eq_false', decide_eq_true_eq, decide_eq_false_iff_not] at hp84
          refine W.skip ?_
          refine thenF_nor ?_
          refine W.seq ?_
          refine W.block ?_
          refine W.seq ?_
          refine W.region (by rfl) ?_
          refine L.val rfl (op_assign rfl rfl) ?_
          refine L.nil ?_
          refine thenF_nor ?_
          refine W.block ?_
          have S85_hR_l := hR_l
          have S85_hR_mm := hR_mm
          have S85_hB1 := hB1
          have S85_hR2 := hR2
          have S85_hR3 := hR3
          have S85_hR17_10 := hR17_10
          have S85_hR17_11 := hR17_11
          have S85_hR66_11 := hR66_11
          have S85_hR81_11 := hR81_11
          have S85_hE := hE
          have S85_hS19 := hS19
          have S85_hS22 := hS22
          have S85_hS82 := hS82
          have hS85 : Ext w83 w83 := Ext.refl _
          refine W.loopg (γ := Nat × Int) (fun (g : Nat × Int) (f : Fr) (ww : World) => g.1 ≤ (closure_f m parent (mm.take 250) (outcomes_f m parent (mm.take 250) slot)[k]!).length ∧ ((closure_f m parent (mm.take 250) (outcomes_f m parent (mm.take 250) slot)[k]!).take g.1).foldl (torn13Step (closure_f m parent (l.take 250) (outcomes_f m parent (l.take 250) slot)[i]!)[u]!) t = g.2 ∧ f 0 = (.int .i64 m) ∧ f 2 = (.slice A2 (l.take 250).length c2) ∧ f 3 = (.slice A3 (mm.take 250).length c3) ∧ f 6 = (.pointer (some ⟨b1, 0, none⟩)) ∧ f 11 = (.slice A17_10 (outcomes_f m parent (l.take 250) slot).length c17_10) ∧ f 12 = (.slice A17_11 (outcomes_f m parent (mm.take 250) slot).length c17_11) ∧ f 13 = (.int .i64 (size_f m)) ∧ f 14 = (.int .i64 ((i : Nat) : Int)) ∧ f 15 = (.int .i64 ((k : Nat) : Int)) ∧ f 16 = (.slice A66_11 (closure_f m parent (l.take 250) ((outcomes_f m parent (l.take 250) slot)[i]!)).length c66_11) ∧ f 18 = (.slice A81_11 (closure_f m parent (mm.take 250) ((outcomes_f m parent (mm.take 250) slot)[k]!)).length c81_11) ∧ f 21 = (.int .i64 ((u : Nat) : Int)) ∧ f 42 = (.bool (decide (((i : Nat) : Int) < ((outcomes_f m parent (l.take 250) slot).length : Int)))) ∧ f 48 = (.bool (decide (((k : Nat) : Int) < ((outcomes_f m parent (mm.take 250) slot).length : Int)))) ∧ f 74 = (.bool ((decide ((((outcomes_f m parent (l.take 250) slot)[i]!).choice) = (((outcomes_f m parent (mm.take 250) slot)[k]!).choice))) && (decide (((outcomes_f m parent (l.take 250) slot)[i]!).value = ((outcomes_f m parent (mm.take 250) slot)[k]!).value)))) ∧ f 100 = (.bool (decide (((u : Nat) : Int) < ((closure_f m parent (l.take 250) ((outcomes_f m parent (l.take 250) slot)[i]!)).length : Int)))) ∧ f 22 = (.int .i64 ((g.1 : Nat) : Int)) ∧ f 20 = (.int .i64 g.2) ∧ Ext w83 ww) (fun (g : Nat × Int) => (closure_f m parent (mm.take 250) (outcomes_f m parent (mm.take 250) slot)[k]!).length - g.1) (0, t) ⟨(by (try dsimp only); omega), rfl, s83_0, s83_2, s83_3, s83_6, s83_11, s83_12, s83_13, s83_14, s83_15, s83_16, s83_18, s83_21, s83_42, s83_48, s83_74, rfl, rfl, s83_20, hS85⟩ ?_
          rintro ⟨w2, t2⟩ f86 w86 ⟨hw, hst, s86_0, s86_2, s86_3, s86_6, s86_11, s86_12, s86_13, s86_14, s86_15, s86_16, s86_18, s86_21, s86_42, s86_48, s86_74, s86_100, s86_22, s86_20, hS85⟩
          dsimp only at hw hst s86_0 s86_2 s86_3 s86_6 s86_11 s86_12 s86_13 s86_14 s86_15 s86_16 s86_18 s86_21 s86_42 s86_48 s86_74 s86_100 s86_22 s86_20 hS85
          have hR_l := S85_hR_l.ext hS85
          have hR_mm := S85_hR_mm.ext hS85
          have hB1 := S85_hB1.ext hS85
          have hR2 := S85_hR2.ext hS85
          have hR3 := S85_hR3.ext hS85
          have hR17_10 := S85_hR17_10.ext hS85
          have hR17_11 := S85_hR17_11.ext hS85
          have hR66_11 := S85_hR66_11.ext hS85
          have hR81_11 := S85_hR81_11.ext hS85
          have hE := S85_hE.trans hS85
          have hS19 := S85_hS19.trans hS85
          have hS22 := S85_hS22.trans hS85
          have hS82 := S85_hS82.trans hS85
          refine W.seq ?_
          refine W.seq ?_
          refine W.region (by rfl) ?_
          refine L.val rfl (op_move rfl s86_22) ?_
          refine L.val rfl (op_move rfl s86_18) ?_
          refine L.val rfl (op_len rfl rfl ln25) ?_
          refine L.val rfl (op_lss rfl rfl rfl) ?_
          refine L.nil ?_
          refine thenF_nor ?_
          refine W.cond (t := decide (((w2 : Nat) : Int) < ((closure_f m parent (mm.take 250) ((outcomes_f m parent (mm.take 250) slot)[k]!)).length : Int))) rfl (fun hc87 => ?_) (fun hc87 => ?_)
          · have hp87 := hc87
            simp only [Bool.and_eq_true, Bool.or_eq_true, Bool.and_eq_false_iff, Bool.or_eq_false_iff, Bool.not_eq_true', Bool.not_eq_false', decide_eq_true_eq, decide_eq_false_iff_not] at hp87
            refine W.skip ?_
            refine thenF_nor ?_
            refine W.seq ?_
            refine W.block ?_
            refine W.seq ?_
            refine W.drawS [Sp.eq (.slice A66_11 (closure_f m parent (l.take 250) ((outcomes_f m parent (l.take 250) slot)[i]!)).length c66_11), Sp.eq (.int .i64 ((u : Nat) : Int)), Sp.eq (.pointer (some ((adr A66_11).add (u * 22)))), Sp.eq (Enc.val ((closure_f m parent (l.take 250) ((outcomes_f m parent (l.take 250) slot)[i]!))[u]!)), Sp.eq (.slice A81_11 (closure_f m parent (mm.take 250) ((outcomes_f m parent (mm.take 250) slot)[k]!)).length c81_11), Sp.eq (.int .i64 ((w2 : Nat) : Int)), Sp.eq (.pointer (some ((adr A81_11).add (w2 * 22)))), Sp.eq (Enc.val ((closure_f m parent (mm.take 250) ((outcomes_f m parent (mm.take 250) slot)[k]!))[w2]!)), Sp.eq (.bool (conflict_f ((closure_f m parent (l.take 250) ((outcomes_f m parent (l.take 250) slot)[i]!))[u]!) ((closure_f m parent (mm.take 250) ((outcomes_f m parent (mm.take 250) slot)[k]!))[w2]!)))] mixed (by rfl) (Obls.cons ?_ (Obls.cons ?_ (Obls.cons ?_ (Obls.cons ?_ (Obls.cons ?_ (Obls.cons ?_ (Obls.cons ?_ (Obls.cons ?_ (Obls.cons ?_ Obls.nil))))))))) ?_
            · intro f89 w89 hx89 ho89 hd89
              have d89_s16 : f89 16 = (.slice A66_11 (closure_f m parent (l.take 250) ((outcomes_f m parent (l.take 250) slot)[i]!)).length c66_11) := (ho89 16 rfl).trans s86_16
              exact D.val rfl (op_move rfl d89_s16)
            · intro f90 w90 hx90 ho90 hd90
              have d90_s21 : f90 21 = (.int .i64 ((u : Nat) : Int)) := (ho90 21 rfl).trans s86_21
              exact D.val rfl (op_move rfl d90_s21)
            · intro f91 w91 hx91 ho91 hd91
              have d91_0 : f91 109 = (.slice A66_11 (closure_f m parent (l.take 250) ((outcomes_f m parent (l.take 250) slot)[i]!)).length c66_11) := hd91 0 rfl
              have d91_1 : f91 110 = (.int .i64 ((u : Nat) : Int)) := hd91 1 rfl
              have hR_l := hR_l.ext hx91
              have hR_mm := hR_mm.ext hx91
              have hB1 := hB1.ext hx91
              have hR2 := hR2.ext hx91
              have hR3 := hR3.ext hx91
              have hR17_10 := hR17_10.ext hx91
              have hR17_11 := hR17_11.ext hx91
              have hR66_11 := hR66_11.ext hx91
              have hR81_11 := hR81_11.ext hx91
              skip
              exact D.val rfl (op_index (k := u) rfl d91_0 d91_1 sl25 (hR66_11.getA (get_bang (l := closure_f m parent (l.take 250) ((outcomes_f m parent (l.take 250) slot)[i]!)) (k := u) (by omega))).1 rfl (by omega) rfl)
            · intro f92 w92 hx92 ho92 hd92
              have d92_2 : f92 111 = (.pointer (some ((adr A66_11).add (u * 22)))) := hd92 2 rfl
              have hR_l := hR_l.ext hx92
              have hR_mm := hR_mm.ext hx92
              have hB1 := hB1.ext hx92
              have hR2 := hR2.ext hx92
              have hR3 := hR3.ext hx92
              have hR17_10 := hR17_10.ext hx92
              have hR17_11 := hR17_11.ext hx92
              have hR66_11 := hR66_11.ext hx92
              have hR81_11 := hR81_11.ext hx92
              skip
              exact D.val rfl (op_load (v := (closure_f m parent (l.take 250) ((outcomes_f m parent (l.take 250) slot)[i]!))[u]!) rfl d92_2 ty28 (hR66_11.getA (get_bang (l := closure_f m parent (l.take 250) ((outcomes_f m parent (l.take 250) slot)[i]!)) (k := u) (by omega))).2)
            · intro f93 w93 hx93 ho93 hd93
              have d93_s18 : f93 18 = (.slice A81_11 (closure_f m parent (mm.take 250) ((outcomes_f m parent (mm.take 250) slot)[k]!)).length c81_11) := (ho93 18 rfl).trans s86_18
              exact D.val rfl (op_move rfl d93_s18)
            · intro f94 w94 hx94 ho94 hd94
              have d94_s22 : f94 22 = (.int .i64 ((w2 : Nat) : Int)) := (ho94 22 rfl).trans s86_22
              exact D.val rfl (op_move rfl d94_s22)
            · intro f95 w95 hx95 ho95 hd95
              have d95_4 : f95 113 = (.slice A81_11 (closure_f m parent (mm.take 250) ((outcomes_f m parent (mm.take 250) slot)[k]!)).length c81_11) := hd95 4 rfl
              have d95_5 : f95 114 = (.int .i64 ((w2 : Nat) : Int)) := hd95 5 rfl
              have hR_l := hR_l.ext hx95
              have hR_mm := hR_mm.ext hx95
              have hB1 := hB1.ext hx95
              have hR2 := hR2.ext hx95
              have hR3 := hR3.ext hx95
              have hR17_10 := hR17_10.ext hx95
              have hR17_11 := hR17_11.ext hx95
              have hR66_11 := hR66_11.ext hx95
              have hR81_11 := hR81_11.ext hx95
              skip
              exact D.val rfl (op_index (k := w2) rfl d95_4 d95_5 sl25 (hR81_11.getA (get_bang (l := closure_f m parent (mm.take 250) ((outcomes_f m parent (mm.take 250) slot)[k]!)) (k := w2) (by omega))).1 rfl (by omega) rfl)
            · intro f96 w96 hx96 ho96 hd96
              have d96_6 : f96 115 = (.pointer (some ((adr A81_11).add (w2 * 22)))) := hd96 6 rfl
              have hR_l := hR_l.ext hx96
              have hR_mm := hR_mm.ext hx96
              have hB1 := hB1.ext hx96
              have hR2 := hR2.ext hx96
              have hR3 := hR3.ext hx96
              have hR17_10 := hR17_10.ext hx96
              have hR17_11 := hR17_11.ext hx96
              have hR66_11 := hR66_11.ext hx96
              have hR81_11 := hR81_11.ext hx96
              skip
              exact D.val rfl (op_load (v := (closure_f m parent (mm.take 250) ((outcomes_f m parent (mm.take 250) slot)[k]!))[w2]!) rfl d96_6 ty28 (hR81_11.getA (get_bang (l := closure_f m parent (mm.take 250) ((outcomes_f m parent (mm.take 250) slot)[k]!)) (k := w2) (by omega))).2)
            · intro f97 w97 hx97 ho97 hd97
              have d97_3 : f97 112 = (Enc.val ((closure_f m parent (l.take 250) ((outcomes_f m parent (l.take 250) slot)[i]!))[u]!)) := hd97 3 rfl
              have d97_7 : f97 116 = (Enc.val ((closure_f m parent (mm.take 250) ((outcomes_f m parent (mm.take 250) slot)[k]!))[w2]!)) := hd97 7 rfl
              have hR_l := hR_l.ext hx97
              have hR_mm := hR_mm.ext hx97
              have hB1 := hB1.ext hx97
              have hR2 := hR2.ext hx97
              have hR3 := hR3.ext hx97
              have hR17_10 := hR17_10.ext hx97
              have hR17_11 := hR17_11.ext hx97
              have hR66_11 := hR66_11.ext hx97
              have hR81_11 := hR81_11.ext hx97
              exact D.call (R := (Sp.eq (.bool (conflict_f ((closure_f m parent (l.take 250) ((outcomes_f m parent (l.take 250) slot)[i]!))[u]!) ((closure_f m parent (mm.take 250) ((outcomes_f m parent (mm.take 250) slot)[k]!))[w2]!)))).p) rfl (OpS.call (op_call rfl (argsC d97_3 (argsC d97_7 argsN)) Try.func38 rfl rfl) Conflict_ok)
            intro f98 w98 hx98 ho98 hr98
            have s0 : f98 0 = (.int .i64 m) := (ho98 0 rfl).trans s86_0
            have s2 : f98 2 = (.slice A2 (l.take 250).length c2) := (ho98 2 rfl).trans s86_2
            have s3 : f98 3 = (.slice A3 (mm.take 250).length c3) := (ho98 3 rfl).trans s86_3
            have s6 : f98 6 = (.pointer (some ⟨b1, 0, none⟩)) := (ho98 6 rfl).trans s86_6
            have s11 : f98 11 = (.slice A17_10 (outcomes_f m parent (l.take 250) slot).length c17_10) := (ho98 11 rfl).trans s86_11
            have s12 : f98 12 = (.slice A17_11 (outcomes_f m parent (mm.take 250) slot).length c17_11) := (ho98 12 rfl).trans s86_12
            have s13 : f98 13 = (.int .i64 (size_f m)) := (ho98 13 rfl).trans s86_13
            have s14 : f98 14 = (.int .i64 ((i : Nat) : Int)) := (ho98 14 rfl).trans s86_14
            have s15 : f98 15 = (.int .i64 ((k : Nat) : Int)) := (ho98 15 rfl).trans s86_15
            have s16 : f98 16 = (.slice A66_11 (closure_f m parent (l.take 250) ((outcomes_f m parent (l.take 250) slot)[i]!)).length c66_11) := (ho98 16 rfl).trans s86_16
            have s18 : f98 18 = (.slice A81_11 (closure_f m parent (mm.take 250) ((outcomes_f m parent (mm.take 250) slot)[k]!)).length c81_11) := (ho98 18 rfl).trans s86_18
            have s20 : f98 20 = (.int .i64 t2) := (ho98 20 rfl).trans s86_20
            have s21 : f98 21 = (.int .i64 ((u : Nat) : Int)) := (ho98 21 rfl).trans s86_21
            have s22 : f98 22 = (.int .i64 ((w2 : Nat) : Int)) := (ho98 22 rfl).trans s86_22
            have s42 : f98 42 = (.bool (decide (((i : Nat) : Int) < ((outcomes_f m parent (l.take 250) slot).length : Int)))) := (ho98 42 rfl).trans s86_42
            have s48 : f98 48 = (.bool (decide (((k : Nat) : Int) < ((outcomes_f m parent (mm.take 250) slot).length : Int)))) := (ho98 48 rfl).trans s86_48
            have s74 : f98 74 = (.bool ((decide ((((outcomes_f m parent (l.take 250) slot)[i]!).choice) = (((outcomes_f m parent (mm.take 250) slot)[k]!).choice))) && (decide (((outcomes_f m parent (l.take 250) slot)[i]!).value = ((outcomes_f m parent (mm.take 250) slot)[k]!).value)))) := (ho98 74 rfl).trans s86_74
            have s100 : f98 100 = (.bool (decide (((u : Nat) : Int) < ((closure_f m parent (l.take 250) ((outcomes_f m parent (l.take 250) slot)[i]!)).length : Int)))) := (ho98 100 rfl).trans s86_100
            have s106 : f98 106 = (.bool (decide (((w2 : Nat) : Int) < ((closure_f m parent (mm.take 250) ((outcomes_f m parent (mm.take 250) slot)[k]!)).length : Int)))) := ho98 106 rfl
            have s117 : f98 117 = (.bool (conflict_f ((closure_f m parent (l.take 250) ((outcomes_f m parent (l.take 250) slot)[i]!))[u]!) ((closure_f m parent (mm.take 250) ((outcomes_f m parent (mm.take 250) slot)[k]!))[w2]!))) := hr98 8 (by decide)
            have hE := hE.trans hx98
            have hS19 := hS19.trans hx98
            have hS22 := hS22.trans hx98
            have hS82 := hS82.trans hx98
            have hS85 := hS85.trans hx98
            have hR_l := hR_l.ext hx98
            have hR_mm := hR_mm.ext hx98
            have hB1 := hB1.ext hx98
            have hR2 := hR2.ext hx98
            have hR3 := hR3.ext hx98
            have hR17_10 := hR17_10.ext hx98
            have hR17_11 := hR17_11.ext hx98
            have hR66_11 := hR66_11.ext hx98
            have hR81_11 := hR81_11.ext hx98
            refine thenF_nor ?_
            refine W.cond (t := conflict_f ((closure_f m parent (l.take 250) ((outcomes_f m parent (l.take 250) slot)[i]!))[u]!) ((closure_f m parent (mm.take 250) ((outcomes_f m parent (mm.take 250) slot)[k]!))[w2]!)) s117 (fun hc99 => ?_) (fun hc99 => ?_)
            · have hp99 := hc99
              have hcc := hc99
              have hrg := conflict_range (x := (closure_f m parent (l.take 250) (outcomes_f m parent (l.take 250) slot)[i]!)[u]!) (y := (closure_f m parent (mm.take 250) (outcomes_f m parent (mm.take 250) slot)[k]!)[w2]!) hcc
              refine W.region (by rfl) ?_
              refine L.val rfl (op_move rfl s20) ?_
              refine L.val rfl (op_move rfl s16) ?_
              refine L.val rfl (op_move rfl s21) ?_
              refine L.val rfl (op_index (k := u) rfl rfl rfl sl25 (hR66_11.getA (get_bang (l := closure_f m parent (l.take 250) ((outcomes_f m parent (l.take 250) slot)[i]!)) (k := u) (by omega))).1 rfl (by omega) rfl) ?_
              refine L.val rfl (op_field rfl rfl fo28_4 rfl) ?_
              refine L.val rfl (op_load1 rfl rfl one3 ((hR66_11.getA (get_bang (l := closure_f m parent (l.take 250) ((outcomes_f m parent (l.take 250) slot)[i]!)) (k := u) (by omega))).2.one (n := 4) rfl)) ?_
              refine L.val rfl (op_conv rfl rfl (by kernel_rfl) Try.underlying60) ?_
              refine L.val rfl (op_shlu rfl rfl rfl (by omega) (by omega)) ?_
              refine L.val rfl (op_ior rfl rfl rfl) ?_
              refine L.val rfl (op_assign rfl rfl) ?_
              refine L.nil ?_
              refine blockF_nor ?_
              refine thenF_nor ?_
              refine W.region (by rfl) ?_
              refine L.val rfl (op_move rfl s22) ?_
              refine L.val rfl (op_add (c := ((w2 + 1 : Nat) : Int)) rfl rfl rfl (by omega) (by omega)) ?_
              refine L.val rfl (op_assign rfl rfl) ?_
              refine L.nil ?_
              refine thenF_nor ?_
              exact ⟨(w2 + 1, ior t2 (ishl 1 (((closure_f m parent (l.take 250) ((outcomes_f m parent (l.take 250) slot)[i]!))[u]!).signer))), ⟨(by (try dsimp only); omega), (by dsimp only; rw [fold_go (by omega), hst]; unfold torn13Step; rw [hcc]; rfl), s0, s2, s3, s6, s11, s12, s13, s14, s15, s16, s18, s21, s42, s48, s74, s100, rfl, rfl, hS85⟩, (by (try dsimp only); omega)⟩
            · have hp99 := hc99
              have hcc := hc99
              refine W.skip ?_
              refine blockF_nor ?_
              refine thenF_nor ?_
              refine W.region (by rfl) ?_
              refine L.val rfl (op_move rfl s22) ?_
              refine L.val rfl (op_add (c := ((w2 + 1 : Nat) : Int)) rfl rfl rfl (by omega) (by omega)) ?_
              refine L.val rfl (op_assign rfl rfl) ?_
              refine L.nil ?_
              refine thenF_nor ?_
              exact ⟨(w2 + 1, t2), ⟨(by (try dsimp only); omega), (by dsimp only; rw [fold_go (by omega), hst]; unfold torn13Step; rw [hcc]; rfl), s0, s2, s3, s6, s11, s12, s13, s14, s15, s16, s18, s21, s42, s48, s74, s100, rfl, s20, hS85⟩, (by (try dsimp only); omega)⟩
          · have hp87 := hc87
            simp only [Bool.and_eq_true, Bool.or_eq_true, Bool.and_eq_false_iff, Bool.or_eq_false_iff, Bool.not_eq_true', Bool.not_eq_false', decide_eq_true_eq, decide_eq_false_iff_not] at hp87
            have hkl : w2 = (closure_f m parent (mm.take 250) (outcomes_f m parent (mm.take 250) slot)[k]!).length := by omega
            rw [hkl, List.take_length] at hst
            refine W.exit ?_
            refine thenF_exit ?_
            refine thenF_exit ?_
            refine blockF_hit ?_
            refine blockF_nor ?_
            refine thenF_nor ?_
            refine W.region (by rfl) ?_
            refine L.val rfl (op_move rfl s86_21) ?_
            refine L.val rfl (op_add (c := ((u + 1 : Nat) : Int)) rfl rfl rfl (by omega) (by omega)) ?_
            refine L.val rfl (op_assign rfl rfl) ?_
            refine L.nil ?_
            refine thenF_nor ?_
            exact ⟨(u + 1, t2), ⟨(by (try dsimp only); omega), (by dsimp only; rw [fold_go (by omega), hti]; exact hst), s86_0, s86_2, s86_3, s86_6, s86_11, s86_12, s86_13, s86_14, s86_15, s86_16, s86_18, s86_42, s86_48, s86_74, rfl, s86_20, hS82⟩, (by (try dsimp only); omega)⟩
        · have hp84 := hc84
          simp only [Bool.and_eq_true, Bool.or_eq_true, Bool.and_eq_false_iff, Bool.or_eq_false_iff, Bool.not_eq_true', Bool.not_eq_false', decide_eq_true_eq, decide_eq_false_iff_not] at hp84
          have hil : u = (closure_f m parent (l.take 250) (outcomes_f m parent (l.take 250) slot)[i]!).length := by omega
          rw [hil, List.take_length] at hti
          refine W.exit ?_
          refine thenF_exit ?_
          refine thenF_exit ?_
          refine blockF_hit ?_
          refine thenF_nor ?_
          refine W.seq ?_
          refine W.region (by rfl) ?_
          refine L.val rfl (op_move rfl s83_20) ?_
          refine L.val rfl (op_move rfl s83_0) ?_
          refine L.val rfl (op_iand rfl rfl rfl) ?_
          refine L.call (v := (.int .i64 (size_f (iand t m)))) rfl (OpS.call (op_call rfl (argsC rfl argsN) Try.func29 rfl rfl) Size_ok) ?_
          intro w100 hx100
          have hE := hE.trans hx100
          have hS19 := hS19.trans hx100
          have hS22 := hS22.trans hx100
          have hS82 := hS82.trans hx100
          have hR_l := hR_l.ext hx100
          have hR_mm := hR_mm.ext hx100
          have hB1 := hB1.ext hx100
          have hR2 := hR2.ext hx100
          have hR3 := hR3.ext hx100
          have hR17_10 := hR17_10.ext hx100
          have hR17_11 := hR17_11.ext hx100
          have hR66_11 := hR66_11.ext hx100
          have hR81_11 := hR81_11.ext hx100
          refine L.val rfl (op_move rfl s83_13) ?_
          refine L.call (v := (.int .i64 (quorum_f (size_f m)))) rfl (OpS.call (op_call rfl (argsC rfl argsN) Try.func31 rfl rfl) (Quorum_ok (by first | omega | (simp only [List.length_drop, List.length_take, List.length_append, List.length_cons, List.length_nil] at *; omega)) (by first | omega | (simp only [List.length_drop, List.length_take, List.length_append, List.length_cons, List.length_nil] at *; omega)))) ?_
          intro w101 hx101
          have hE := hE.trans hx101
          have hS19 := hS19.trans hx101
          have hS22 := hS22.trans hx101
          have hS82 := hS82.trans hx101
          have hR_l := hR_l.ext hx101
          have hR_mm := hR_mm.ext hx101
          have hB1 := hB1.ext hx101
          have hR2 := hR2.ext hx101
          have hR3 := hR3.ext hx101
          have hR17_10 := hR17_10.ext hx101
          have hR17_11 := hR17_11.ext hx101
          have hR66_11 := hR66_11.ext hx101
          have hR81_11 := hR81_11.ext hx101
          refine L.val rfl (op_mul rfl rfl rfl rfl (by omega)) ?_
          refine L.val rfl (op_move rfl s83_13) ?_
          refine L.val rfl (op_sub rfl rfl rfl rfl (by omega)) ?_
          refine L.val rfl (op_lss rfl rfl rfl) ?_
          refine L.nil ?_
          refine thenF_nor ?_
          refine W.cond (t := decide ((size_f (iand t m)) < ((2 * (quorum_f (size_f m))) - (size_f m)))) rfl (fun hc102 => ?_) (fun hc102 => ?_)
          · have hp102 := hc102
            simp only [Bool.and_eq_true, Bool.or_eq_true, Bool.and_eq_false_iff, Bool.or_eq_false_iff, Bool.not_eq_true', Bool.not_eq_false', decide_eq_true_eq, decide_eq_false_iff_not] at hp102
            exact absurd hc102 (by rw [← hti]; rw [accounts13 (m := m) (parent := parent) (l := (l.take 250)) (mm := (mm.take 250)) (slot := slot) (by omega) (by omega) hne13]; simp)
          · have hp102 := hc102
            simp only [Bool.and_eq_true, Bool.or_eq_true, Bool.and_eq_false_iff, Bool.or_eq_false_iff, Bool.not_eq_true', Bool.not_eq_false', decide_eq_true_eq, decide_eq_false_iff_not] at hp102
            refine W.skip ?_
            refine blockF_nor ?_
            refine thenF_nor ?_
            refine W.region (by rfl) ?_
            refine L.val rfl (op_move rfl s83_15) ?_
            refine L.val rfl (op_add (c := ((k + 1 : Nat) : Int)) rfl rfl rfl (by omega) (by omega)) ?_
            refine L.val rfl (op_assign rfl rfl) ?_
            refine L.nil ?_
            refine thenF_nor ?_
            exact ⟨k + 1, ⟨(by (try dsimp only); omega), s83_0, s83_2, s83_3, s83_6, s83_11, s83_12, s83_13, s83_14, s83_42, rfl, hS22⟩, (by (try dsimp only); omega)⟩
    · have hp24 := hc24
      simp only [Bool.and_eq_true, Bool.or_eq_true, Bool.and_eq_false_iff, Bool.or_eq_false_iff, Bool.not_eq_true', Bool.not_eq_false', decide_eq_true_eq, decide_eq_false_iff_not] at hp24
      refine W.exit ?_
      refine thenF_exit ?_
      refine thenF_exit ?_
      refine blockF_hit ?_
      refine blockF_nor ?_
      refine thenF_nor ?_
      refine W.region (by rfl) ?_
      refine L.val rfl (op_move rfl s23_14) ?_
      refine L.val rfl (op_add (c := ((i + 1 : Nat) : Int)) rfl rfl rfl (by omega) (by omega)) ?_
      refine L.val rfl (op_assign rfl rfl) ?_
      refine L.nil ?_
      refine thenF_nor ?_
      exact ⟨i + 1, ⟨(by (try dsimp only); omega), s23_0, s23_2, s23_3, s23_6, s23_11, s23_12, s23_13, rfl, hS19⟩, (by (try dsimp only); omega)⟩
  · have hp21 := hc21
    simp only [Bool.and_eq_true, Bool.or_eq_true, Bool.and_eq_false_iff, Bool.or_eq_false_iff, Bool.not_eq_true', Bool.not_eq_false', decide_eq_true_eq, decide_eq_false_iff_not] at hp21
    refine W.exit ?_
    refine thenF_exit ?_
    refine thenF_exit ?_
    refine blockF_hit ?_
    refine thenF_nor ?_
    refine W.seq ?_
    refine W.region (by rfl) ?_
    refine L.call (v := (.bool true)) rfl (OpS.call (op_call rfl argsN Try.func51 rfl rfl) awake13_ok) ?_
    intro w103 hx103
    have hE := hE.trans hx103
    have hS19 := hS19.trans hx103
    have hR_l := hR_l.ext hx103
    have hR_mm := hR_mm.ext hx103
    have hB1 := hB1.ext hx103
    have hR2 := hR2.ext hx103
    have hR3 := hR3.ext hx103
    have hR17_10 := hR17_10.ext hx103
    have hR17_11 := hR17_11.ext hx103
    refine L.val (v := (.bool true)) rfl (op_assign rfl rfl) ?_
    refine L.nil ?_
    refine thenF_nor ?_
    refine W.ret ?_
    exact end_ret1 (v := (.bool true)) rfl rfl ⟨rfl, hE⟩

end Go.Proofs.Ytdknjfmjddlphaa
