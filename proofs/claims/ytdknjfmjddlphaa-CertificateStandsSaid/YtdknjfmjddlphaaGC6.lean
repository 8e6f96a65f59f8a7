/-
  Contracts of functions of the program, each with its walk in the logic of frames. Printed by a program of this session (wip/gen) from the translation.
-/
import Derived.Test.YtdknjfmjddlphaaGC5
import Derived.Test.YtdknjfmjddlphaaLaw13
set_option linter.unusedSimpArgs false
set_option linter.unusedVariables false
namespace Go.Proofs.Ytdknjfmjddlphaa
open Go Go.Fk

set_option maxRecDepth 100000 in
set_option maxHeartbeats 8000000 in
theorem CertificateStands_ok {m : Int} {parent : Nm} {A_l : Option Addr} {c_l lo_l hi_l : Nat} {l : List Vt} {slot : Int}  {w : World} (hR_l : Rd w lo_l hi_l A_l l) (hcap_l : l.length ≤ c_l) : Gives Try.prog 15 #[(.int .i64 m), (Enc.val (parent : Nm)), (.slice A_l l.length c_l), (.int .i64 slot)] w fun u w' => u = (.bool true) ∧ Ext w w' := by
  have hE : Ext w w := Ext.refl w
  have hlen_l := hR_l.len
  refine gives_of_W Try.func15 rfl Try.ntmps15 rfl ?_
  have htl : (l.take 250).length ≤ 250 := List.length_take_le _ _
  have hal := acc_len m parent (l.take 250)
  refine W.seq ?_
  refine W.region (by rfl) ?_
  refine L.step rfl (op_box (cs := (Enc.cells (parent : Nm))) rfl rfl rfl) ?_
  rintro _ w1 ⟨b1, rfl, hb1, hB1, hx1⟩
  have hE := hE.trans hx1
  have hR_l := hR_l.ext hx1
  refine L.val (v := (.bool false)) rfl (op_assign rfl rfl) ?_
  refine L.nil ?_
  refine thenF_nor ?_
  refine W.seq ?_
  refine W.region (by rfl) ?_
  refine L.val rfl (op_move rfl rfl) ?_
  refine L.step rfl (OpS.call (op_call rfl (argsC rfl argsN) Try.func46 rfl rfl) (cut13_ok hR_l hcap_l)) ?_
  rintro _ w2 ⟨⟨A2, c2, lo2, hi2, rfl, hcap2, hR2⟩, hx2⟩
  have hE := hE.trans hx2
  have hR_l := hR_l.ext hx2
  have hB1 := hB1.ext hx2
  have hlen2 := hR2.len
  refine L.val rfl (op_assign rfl rfl) ?_
  refine L.nil ?_
  refine thenF_nor ?_
  refine W.seq ?_
  refine W.region (by rfl) ?_
  refine L.val rfl (op_move rfl rfl) ?_
  refine L.val rfl (op_load (v := (parent : Nm)) rfl rfl ty24 hB1.cells) ?_
  refine L.val rfl (op_move rfl rfl) ?_
  refine L.val rfl (op_move rfl rfl) ?_
  refine L.step rfl (OpS.call (op_call rfl (argsC rfl (argsC rfl (argsC rfl (argsC rfl argsN)))) Try.func26 rfl rfl) (Outcomes_ok hR2 (by first | omega | (simp only [List.length_drop, List.length_take, List.length_append, List.length_cons, List.length_nil] at *; omega)))) ?_
  rintro _ w3 ⟨⟨A3, c3, lo3, hi3, rfl, hcap3, hR3⟩, hx3⟩
  have hE := hE.trans hx3
  have hR_l := hR_l.ext hx3
  have hB1 := hB1.ext hx3
  have hR2 := hR2.ext hx3
  have hlen3 := hR3.len
  refine L.val rfl (op_assign rfl rfl) ?_
  refine L.nil ?_
  refine thenF_nor ?_
  refine W.seq ?_
  refine W.region (by rfl) ?_
  refine L.val rfl (op_move rfl rfl) ?_
  refine L.val rfl (op_load (v := (parent : Nm)) rfl rfl ty24 hB1.cells) ?_
  refine L.val rfl (op_move rfl rfl) ?_
  refine L.step rfl (OpS.call (op_call rfl (argsC rfl (argsC rfl (argsC rfl argsN))) Try.func18 rfl rfl) (Accepted_ok hR2 (by first | omega | (simp only [List.length_drop, List.length_take, List.length_append, List.length_cons, List.length_nil] at *; omega)))) ?_
  rintro _ w4 ⟨⟨A4, c4, lo4, hi4, rfl, hcap4, hR4⟩, hx4⟩
  have hE := hE.trans hx4
  have hR_l := hR_l.ext hx4
  have hB1 := hB1.ext hx4
  have hR2 := hR2.ext hx4
  have hR3 := hR3.ext hx4
  have hlen4 := hR4.len
  refine L.val rfl (op_assign rfl rfl) ?_
  refine L.nil ?_
  refine thenF_nor ?_
  refine W.seq ?_
  refine W.seq ?_
  refine W.region (by rfl) ?_
  refine L.val rfl (op_assign rfl rfl) ?_
  refine L.nil ?_
  refine thenF_nor ?_
  refine W.block ?_
  have S5_hR_l := hR_l
  have S5_hB1 := hB1
  have S5_hR2 := hR2
  have S5_hR3 := hR3
  have S5_hR4 := hR4
  have S5_hE := hE
  have hS5 : Ext w4 w4 := Ext.refl _
  refine W.loopg (γ := Nat) (fun (i : Nat) (f : Fr) (ww : World) => i ≤ (outcomes_f m parent (l.take 250) slot).length ∧ f 0 = (.int .i64 m) ∧ f 2 = (.slice A2 (l.take 250).length c2) ∧ f 3 = (.int .i64 slot) ∧ f 5 = (.pointer (some ⟨b1, 0, none⟩)) ∧ f 9 = (.slice A3 (outcomes_f m parent (l.take 250) slot).length c3) ∧ f 10 = (.slice A4 (accepted_f m parent (l.take 250)).length c4) ∧ f 11 = (.int .i64 ((i : Nat) : Int)) ∧ Ext w4 ww) (fun (i : Nat) => (outcomes_f m parent (l.take 250) slot).length - i) 0 ⟨(by (try dsimp only); omega), rfl, rfl, rfl, rfl, rfl, rfl, rfl, hS5⟩ ?_
  rintro i f6 w6 ⟨hi, s6_0, s6_2, s6_3, s6_5, s6_9, s6_10, s6_11, hS5⟩
  have hR_l := S5_hR_l.ext hS5
  have hB1 := S5_hB1.ext hS5
  have hR2 := S5_hR2.ext hS5
  have hR3 := S5_hR3.ext hS5
  have hR4 := S5_hR4.ext hS5
  have hE := S5_hE.trans hS5
  refine W.seq ?_
  refine W.seq ?_
  refine W.region (by rfl) ?_
  refine L.val rfl (op_move rfl s6_11) ?_
  refine L.val rfl (op_move rfl s6_9) ?_
  refine L.val rfl (op_len rfl rfl ln37) ?_
  refine L.val rfl (op_lss rfl rfl rfl) ?_
  refine L.nil ?_
  refine thenF_nor ?_
  refine W.cond (t := decide (((i : Nat) : Int) < ((outcomes_f m parent (l.take 250) slot).length : Int))) rfl (fun hc7 => ?_) (fun hc7 => ?_)
  · have hp7 := hc7
    simp only [Bool.and_eq_true, Bool.or_eq_true, Bool.and_eq_false_iff, Bool.or_eq_false_iff, Bool.not_eq_true', Bool.not_eq_false', decide_eq_true_eq, decide_eq_false_iff_not] at hp7
    have hcl := clo13_len m parent (l.take 250) (outcomes_f m parent (l.take 250) slot)[i]!
    refine W.skip ?_
    refine thenF_nor ?_
    refine W.seq ?_
    refine W.block ?_
    refine W.seq ?_
    refine W.drawS [Sp.eq (.int .i64 m), Sp.eq (Enc.val (parent : Nm)), Sp.eq (.slice A2 (l.take 250).length c2), Sp.eq (.slice A3 (outcomes_f m parent (l.take 250) slot).length c3), Sp.eq (.int .i64 ((i : Nat) : Int)), Sp.eq (.pointer (some ((adr A3).add (i * 11)))), Sp.eq (Enc.val ((outcomes_f m parent (l.take 250) slot)[i]!)), Sp.slq (closure_f m parent (l.take 250) ((outcomes_f m parent (l.take 250) slot)[i]!) : List Vt) (decided_f m parent (l.take 250) ((outcomes_f m parent (l.take 250) slot)[i]!)), Sp.slq (closure_f m parent (l.take 250) ((outcomes_f m parent (l.take 250) slot)[i]!) : List Vt) (decided_f m parent (l.take 250) ((outcomes_f m parent (l.take 250) slot)[i]!)), Sp.slr (closure_f m parent (l.take 250) ((outcomes_f m parent (l.take 250) slot)[i]!) : List Vt), Sp.eq (.bool (decided_f m parent (l.take 250) ((outcomes_f m parent (l.take 250) slot)[i]!))), Sp.slr (closure_f m parent (l.take 250) ((outcomes_f m parent (l.take 250) slot)[i]!) : List Vt), Sp.eq (.bool (decided_f m parent (l.take 250) ((outcomes_f m parent (l.take 250) slot)[i]!)))] mixed (by rfl) (Obls.cons ?_ (Obls.cons ?_ (Obls.cons ?_ (Obls.cons ?_ (Obls.cons ?_ (Obls.cons ?_ (Obls.cons ?_ (Obls.cons ?_ (Obls.cons ?_ (Obls.cons ?_ (Obls.cons ?_ (Obls.cons ?_ (Obls.cons ?_ Obls.nil))))))))))))) ?_
    · intro f9 w9 hx9 ho9 hd9
      have d9_s0 : f9 0 = (.int .i64 m) := (ho9 0 rfl).trans s6_0
      exact D.val rfl (op_move rfl d9_s0)
    · intro f10 w10 hx10 ho10 hd10
      have d10_s5 : f10 5 = (.pointer (some ⟨b1, 0, none⟩)) := (ho10 5 rfl).trans s6_5
      have hR_l := hR_l.ext hx10
      have hB1 := hB1.ext hx10
      have hR2 := hR2.ext hx10
      have hR3 := hR3.ext hx10
      have hR4 := hR4.ext hx10
      exact D.val rfl (op_load (v := (parent : Nm)) rfl d10_s5 ty24 hB1.cells)
    · intro f11 w11 hx11 ho11 hd11
      have d11_s2 : f11 2 = (.slice A2 (l.take 250).length c2) := (ho11 2 rfl).trans s6_2
      exact D.val rfl (op_move rfl d11_s2)
    · intro f12 w12 hx12 ho12 hd12
      have d12_s9 : f12 9 = (.slice A3 (outcomes_f m parent (l.take 250) slot).length c3) := (ho12 9 rfl).trans s6_9
      exact D.val rfl (op_move rfl d12_s9)
    · intro f13 w13 hx13 ho13 hd13
      have d13_s11 : f13 11 = (.int .i64 ((i : Nat) : Int)) := (ho13 11 rfl).trans s6_11
      exact D.val rfl (op_move rfl d13_s11)
    · intro f14 w14 hx14 ho14 hd14
      have d14_3 : f14 36 = (.slice A3 (outcomes_f m parent (l.take 250) slot).length c3) := hd14 3 rfl
      have d14_4 : f14 37 = (.int .i64 ((i : Nat) : Int)) := hd14 4 rfl
      have hR_l := hR_l.ext hx14
      have hB1 := hB1.ext hx14
      have hR2 := hR2.ext hx14
      have hR3 := hR3.ext hx14
      have hR4 := hR4.ext hx14
      skip
      exact D.val rfl (op_index (k := i) rfl d14_3 d14_4 sl37 (hR3.getA (get_bang (l := outcomes_f m parent (l.take 250) slot) (k := i) (by omega))).1 rfl (by omega) rfl)
    · intro f15 w15 hx15 ho15 hd15
      have d15_5 : f15 38 = (.pointer (some ((adr A3).add (i * 11)))) := hd15 5 rfl
      have hR_l := hR_l.ext hx15
      have hB1 := hB1.ext hx15
      have hR2 := hR2.ext hx15
      have hR3 := hR3.ext hx15
      have hR4 := hR4.ext hx15
      skip
      exact D.val rfl (op_load (v := (outcomes_f m parent (l.take 250) slot)[i]!) rfl d15_5 ty49 (hR3.getA (get_bang (l := outcomes_f m parent (l.take 250) slot) (k := i) (by omega))).2)
    · intro f16 w16 hx16 ho16 hd16
      have d16_0 : f16 33 = (.int .i64 m) := hd16 0 rfl
      have d16_1 : f16 34 = (Enc.val (parent : Nm)) := hd16 1 rfl
      have d16_2 : f16 35 = (.slice A2 (l.take 250).length c2) := hd16 2 rfl
      have d16_6 : f16 39 = (Enc.val ((outcomes_f m parent (l.take 250) slot)[i]!)) := hd16 6 rfl
      have hR_l := hR_l.ext hx16
      have hB1 := hB1.ext hx16
      have hR2 := hR2.ext hx16
      have hR3 := hR3.ext hx16
      have hR4 := hR4.ext hx16
      exact D.call (R := (Sp.slq (closure_f m parent (l.take 250) ((outcomes_f m parent (l.take 250) slot)[i]!) : List Vt) (decided_f m parent (l.take 250) ((outcomes_f m parent (l.take 250) slot)[i]!))).p) rfl (OpS.mono (OpS.call (op_call rfl (argsC d16_0 (argsC d16_1 (argsC d16_2 (argsC d16_6 argsN)))) Try.func47 rfl rfl) (Closure_ok hR2 (by first | omega | (simp only [List.length_drop, List.length_take, List.length_append, List.length_cons, List.length_nil] at *; omega)))) fun _ _ ⟨⟨q, h1, h2⟩, h3⟩ => ⟨⟨q, h1, h2⟩, h3⟩)
    · intro f17 w17 hx17 ho17 hd17
      exact D.call (R := (Sp.slq (closure_f m parent (l.take 250) ((outcomes_f m parent (l.take 250) slot)[i]!) : List Vt) (decided_f m parent (l.take 250) ((outcomes_f m parent (l.take 250) slot)[i]!))).p) rfl (OpS.val (op_move rfl rfl) ⟨hd17 7 rfl, Ext.refl _⟩)
    · intro f18 w18 hx18 ho18 hd18
      obtain ⟨q18_8, e18_8, A18_8, c18_8, lo18_8, hi18_8, rfl, hcap18_8, hR18_8⟩ := hd18 8 rfl
      have hlen18_8 := hR18_8.len
      exact D.call (R := (Sp.slr (closure_f m parent (l.take 250) ((outcomes_f m parent (l.take 250) slot)[i]!) : List Vt)).p) rfl (OpS.val (op_extract rfl e18_8 rfl) ⟨⟨_, _, _, _, rfl, hcap18_8, hR18_8⟩, Ext.refl _⟩)
    · intro f19 w19 hx19 ho19 hd19
      obtain ⟨q19_8, e19_8, A19_8, c19_8, lo19_8, hi19_8, rfl, hcap19_8, hR19_8⟩ := hd19 8 rfl
      have hlen19_8 := hR19_8.len
      exact D.val rfl (op_extract rfl e19_8 rfl)
    · intro f20 w20 hx20 ho20 hd20
      exact D.call (R := (Sp.slr (closure_f m parent (l.take 250) ((outcomes_f m parent (l.take 250) slot)[i]!) : List Vt)).p) rfl (OpS.val (op_assign rfl rfl) ⟨hd20 9 rfl, Ext.refl _⟩)
    · intro f21 w21 hx21 ho21 hd21
      have d21_10 : f21 42 = (.bool (decided_f m parent (l.take 250) ((outcomes_f m parent (l.take 250) slot)[i]!))) := hd21 10 rfl
      exact D.val rfl (op_assign rfl d21_10)
    intro f22 w22 hx22 ho22 hr22
    have s0 : f22 0 = (.int .i64 m) := (ho22 0 rfl).trans s6_0
    have s2 : f22 2 = (.slice A2 (l.take 250).length c2) := (ho22 2 rfl).trans s6_2
    have s3 : f22 3 = (.int .i64 slot) := (ho22 3 rfl).trans s6_3
    have s5 : f22 5 = (.pointer (some ⟨b1, 0, none⟩)) := (ho22 5 rfl).trans s6_5
    have s9 : f22 9 = (.slice A3 (outcomes_f m parent (l.take 250) slot).length c3) := (ho22 9 rfl).trans s6_9
    have s10 : f22 10 = (.slice A4 (accepted_f m parent (l.take 250)).length c4) := (ho22 10 rfl).trans s6_10
    have s11 : f22 11 = (.int .i64 ((i : Nat) : Int)) := (ho22 11 rfl).trans s6_11
    have s29 : f22 29 = (.bool (decide (((i : Nat) : Int) < ((outcomes_f m parent (l.take 250) slot).length : Int)))) := ho22 29 rfl
    obtain ⟨A22_11, c22_11, lo22_11, hi22_11, e22_11, hcap22_11, hR22_11⟩ := hr22 11 (by decide)
    have hlen22_11 := hR22_11.len
    have s13 : f22 13 = (.bool (decided_f m parent (l.take 250) ((outcomes_f m parent (l.take 250) slot)[i]!))) := hr22 12 (by decide)
    have hE := hE.trans hx22
    have hS5 := hS5.trans hx22
    have hR_l := hR_l.ext hx22
    have hB1 := hB1.ext hx22
    have hR2 := hR2.ext hx22
    have hR3 := hR3.ext hx22
    have hR4 := hR4.ext hx22
    refine thenF_nor ?_
    refine W.seq ?_
    refine W.seq ?_
    refine W.drawS [Sp.eq (.bool (decided_f m parent (l.take 250) ((outcomes_f m parent (l.take 250) slot)[i]!))), Sp.eq (.bool (!(decided_f m parent (l.take 250) ((outcomes_f m parent (l.take 250) slot)[i]!)))), Sp.eq (.bool (!(decided_f m parent (l.take 250) ((outcomes_f m parent (l.take 250) slot)[i]!)))), Sp.eq (vif (!(!(decided_f m parent (l.take 250) ((outcomes_f m parent (l.take 250) slot)[i]!)))) (.int .i64 m)), Sp.eq (vif (!(!(decided_f m parent (l.take 250) ((outcomes_f m parent (l.take 250) slot)[i]!)))) (Enc.val (parent : Nm))), Sp.eq (vif (!(!(decided_f m parent (l.take 250) ((outcomes_f m parent (l.take 250) slot)[i]!)))) (.slice A22_11 (closure_f m parent (l.take 250) ((outcomes_f m parent (l.take 250) slot)[i]!)).length c22_11)), Sp.eq (vif (!(!(decided_f m parent (l.take 250) ((outcomes_f m parent (l.take 250) slot)[i]!)))) (.slice A3 (outcomes_f m parent (l.take 250) slot).length c3)), Sp.eq (vif (!(!(decided_f m parent (l.take 250) ((outcomes_f m parent (l.take 250) slot)[i]!)))) (.int .i64 ((i : Nat) : Int))), Sp.eq (vif (!(!(decided_f m parent (l.take 250) ((outcomes_f m parent (l.take 250) slot)[i]!)))) (.pointer (some ((adr A3).add (i * 11))))), Sp.eq (vif (!(!(decided_f m parent (l.take 250) ((outcomes_f m parent (l.take 250) slot)[i]!)))) (Enc.val ((outcomes_f m parent (l.take 250) slot)[i]!))), Sp.eq (vif (!(!(decided_f m parent (l.take 250) ((outcomes_f m parent (l.take 250) slot)[i]!)))) (.bool (decided_f m parent (closure_f m parent (l.take 250) ((outcomes_f m parent (l.take 250) slot)[i]!)) ((outcomes_f m parent (l.take 250) slot)[i]!)))), Sp.eq (vif (!(!(decided_f m parent (l.take 250) ((outcomes_f m parent (l.take 250) slot)[i]!)))) (.bool (!(decided_f m parent (closure_f m parent (l.take 250) ((outcomes_f m parent (l.take 250) slot)[i]!)) ((outcomes_f m parent (l.take 250) slot)[i]!))))), Sp.eq (.bool ((!(decided_f m parent (l.take 250) ((outcomes_f m parent (l.take 250) slot)[i]!))) || (!(decided_f m parent (closure_f m parent (l.take 250) ((outcomes_f m parent (l.take 250) slot)[i]!)) ((outcomes_f m parent (l.take 250) slot)[i]!))))), Sp.eq (.bool ((!(decided_f m parent (l.take 250) ((outcomes_f m parent (l.take 250) slot)[i]!))) || (!(decided_f m parent (closure_f m parent (l.take 250) ((outcomes_f m parent (l.take 250) slot)[i]!)) ((outcomes_f m parent (l.take 250) slot)[i]!))))), Sp.eq (vif (!((!(decided_f m parent (l.take 250) ((outcomes_f m parent (l.take 250) slot)[i]!))) || (!(decided_f m parent (closure_f m parent (l.take 250) ((outcomes_f m parent (l.take 250) slot)[i]!)) ((outcomes_f m parent (l.take 250) slot)[i]!))))) (.int .i64 m)), Sp.eq (vif (!((!(decided_f m parent (l.take 250) ((outcomes_f m parent (l.take 250) slot)[i]!))) || (!(decided_f m parent (closure_f m parent (l.take 250) ((outcomes_f m parent (l.take 250) slot)[i]!)) ((outcomes_f m parent (l.take 250) slot)[i]!))))) (Enc.val (parent : Nm))), Sp.eq (vif (!((!(decided_f m parent (l.take 250) ((outcomes_f m parent (l.take 250) slot)[i]!))) || (!(decided_f m parent (closure_f m parent (l.take 250) ((outcomes_f m parent (l.take 250) slot)[i]!)) ((outcomes_f m parent (l.take 250) slot)[i]!))))) (.slice A22_11 (closure_f m parent (l.take 250) ((outcomes_f m parent (l.take 250) slot)[i]!)).length c22_11)), Sp.gsl (!((!(decided_f m parent (l.take 250) ((outcomes_f m parent (l.take 250) slot)[i]!))) || (!(decided_f m parent (closure_f m parent (l.take 250) ((outcomes_f m parent (l.take 250) slot)[i]!)) ((outcomes_f m parent (l.take 250) slot)[i]!))))) (accepted_f m parent (closure_f m parent (l.take 250) ((outcomes_f m parent (l.take 250) slot)[i]!)) : List Vt), Sp.eq (vif (!((!(decided_f m parent (l.take 250) ((outcomes_f m parent (l.take 250) slot)[i]!))) || (!(decided_f m parent (closure_f m parent (l.take 250) ((outcomes_f m parent (l.take 250) slot)[i]!)) ((outcomes_f m parent (l.take 250) slot)[i]!))))) (.slice A22_11 (closure_f m parent (l.take 250) ((outcomes_f m parent (l.take 250) slot)[i]!)).length c22_11)), Sp.eq (vif (!((!(decided_f m parent (l.take 250) ((outcomes_f m parent (l.take 250) slot)[i]!))) || (!(decided_f m parent (closure_f m parent (l.take 250) ((outcomes_f m parent (l.take 250) slot)[i]!)) ((outcomes_f m parent (l.take 250) slot)[i]!))))) (.bool (decide (accepted_f m parent (closure_f m parent (l.take 250) ((outcomes_f m parent (l.take 250) slot)[i]!)) = closure_f m parent (l.take 250) ((outcomes_f m parent (l.take 250) slot)[i]!))))), Sp.eq (vif (!((!(decided_f m parent (l.take 250) ((outcomes_f m parent (l.take 250) slot)[i]!))) || (!(decided_f m parent (closure_f m parent (l.take 250) ((outcomes_f m parent (l.take 250) slot)[i]!)) ((outcomes_f m parent (l.take 250) slot)[i]!))))) (.bool (!(decide (accepted_f m parent (closure_f m parent (l.take 250) ((outcomes_f m parent (l.take 250) slot)[i]!)) = closure_f m parent (l.take 250) ((outcomes_f m parent (l.take 250) slot)[i]!)))))), Sp.eq (.bool (((!(decided_f m parent (l.take 250) ((outcomes_f m parent (l.take 250) slot)[i]!))) || (!(decided_f m parent (closure_f m parent (l.take 250) ((outcomes_f m parent (l.take 250) slot)[i]!)) ((outcomes_f m parent (l.take 250) slot)[i]!)))) || (!(decide (accepted_f m parent (closure_f m parent (l.take 250) ((outcomes_f m parent (l.take 250) slot)[i]!)) = closure_f m parent (l.take 250) ((outcomes_f m parent (l.take 250) slot)[i]!))))))] mixed (by rfl) (Obls.cons ?_ (Obls.cons ?_ (Obls.cons ?_ (Obls.cons ?_ (Obls.cons ?_ (Obls.cons ?_ (Obls.cons ?_ (Obls.cons ?_ (Obls.cons ?_ (Obls.cons ?_ (Obls.cons ?_ (Obls.cons ?_ (Obls.cons ?_ (Obls.cons ?_ (Obls.cons ?_ (Obls.cons ?_ (Obls.cons ?_ (Obls.cons ?_ (Obls.cons ?_ (Obls.cons ?_ (Obls.cons ?_ (Obls.cons ?_ Obls.nil)))))))))))))))))))))) ?_
    · intro f24 w24 hx24 ho24 hd24
      have d24_s13 : f24 13 = (.bool (decided_f m parent (l.take 250) ((outcomes_f m parent (l.take 250) slot)[i]!))) := (ho24 13 rfl).trans s13
      exact D.val rfl (op_move rfl d24_s13)
    · intro f25 w25 hx25 ho25 hd25
      have d25_0 : f25 43 = (.bool (decided_f m parent (l.take 250) ((outcomes_f m parent (l.take 250) slot)[i]!))) := hd25 0 rfl
      exact D.val rfl (op_not rfl d25_0)
    · intro f26 w26 hx26 ho26 hd26
      have d26_1 : f26 44 = (.bool (!(decided_f m parent (l.take 250) ((outcomes_f m parent (l.take 250) slot)[i]!)))) := hd26 1 rfl
      exact D.val rfl (op_move rfl d26_1)
    · intro f27 w27 hx27 ho27 hd27
      have d27_s0 : f27 0 = (.int .i64 m) := (ho27 0 rfl).trans s0
      have d27_2 : f27 45 = (.bool (!(decided_f m parent (l.take 250) ((outcomes_f m parent (l.take 250) slot)[i]!)))) := hd27 2 rfl
      exact D.guardv (wanted_no rfl rfl d27_2) (fun hg => (op_move rfl d27_s0))
    · intro f28 w28 hx28 ho28 hd28
      have d28_s5 : f28 5 = (.pointer (some ⟨b1, 0, none⟩)) := (ho28 5 rfl).trans s5
      have d28_2 : f28 45 = (.bool (!(decided_f m parent (l.take 250) ((outcomes_f m parent (l.take 250) slot)[i]!)))) := hd28 2 rfl
      have hR_l := hR_l.ext hx28
      have hB1 := hB1.ext hx28
      have hR2 := hR2.ext hx28
      have hR3 := hR3.ext hx28
      have hR4 := hR4.ext hx28
      have hR22_11 := hR22_11.ext hx28
      exact D.guardv (wanted_no rfl rfl d28_2) (fun hg => (op_load (v := (parent : Nm)) rfl d28_s5 ty24 hB1.cells))
    · intro f29 w29 hx29 ho29 hd29
      have d29_s12 : f29 12 = (.slice A22_11 (closure_f m parent (l.take 250) ((outcomes_f m parent (l.take 250) slot)[i]!)).length c22_11) := (ho29 12 rfl).trans e22_11
      have d29_2 : f29 45 = (.bool (!(decided_f m parent (l.take 250) ((outcomes_f m parent (l.take 250) slot)[i]!)))) := hd29 2 rfl
      exact D.guardv (wanted_no rfl rfl d29_2) (fun hg => (op_move rfl d29_s12))
    · intro f30 w30 hx30 ho30 hd30
      have d30_s9 : f30 9 = (.slice A3 (outcomes_f m parent (l.take 250) slot).length c3) := (ho30 9 rfl).trans s9
      have d30_2 : f30 45 = (.bool (!(decided_f m parent (l.take 250) ((outcomes_f m parent (l.take 250) slot)[i]!)))) := hd30 2 rfl
      exact D.guardv (wanted_no rfl rfl d30_2) (fun hg => (op_move rfl d30_s9))
    · intro f31 w31 hx31 ho31 hd31
      have d31_s11 : f31 11 = (.int .i64 ((i : Nat) : Int)) := (ho31 11 rfl).trans s11
      have d31_2 : f31 45 = (.bool (!(decided_f m parent (l.take 250) ((outcomes_f m parent (l.take 250) slot)[i]!)))) := hd31 2 rfl
      exact D.guardv (wanted_no rfl rfl d31_2) (fun hg => (op_move rfl d31_s11))
    · intro f32 w32 hx32 ho32 hd32
      have d32_2 : f32 45 = (.bool (!(decided_f m parent (l.take 250) ((outcomes_f m parent (l.take 250) slot)[i]!)))) := hd32 2 rfl
      have d32_6 : f32 49 = (vif (!(!(decided_f m parent (l.take 250) ((outcomes_f m parent (l.take 250) slot)[i]!)))) (.slice A3 (outcomes_f m parent (l.take 250) slot).length c3)) := hd32 6 rfl
      have d32_7 : f32 50 = (vif (!(!(decided_f m parent (l.take 250) ((outcomes_f m parent (l.take 250) slot)[i]!)))) (.int .i64 ((i : Nat) : Int))) := hd32 7 rfl
      have hR_l := hR_l.ext hx32
      have hB1 := hB1.ext hx32
      have hR2 := hR2.ext hx32
      have hR3 := hR3.ext hx32
      have hR4 := hR4.ext hx32
      have hR22_11 := hR22_11.ext hx32
      exact D.guardv (wanted_no rfl rfl d32_2) (fun hg => by have hp := hg; (try simp only [Bool.and_eq_true, Bool.or_eq_true, Bool.not_eq_true', decide_eq_true_eq, decide_eq_false_iff_not, bne_iff_ne, beq_iff_eq] at hp); skip; exact (op_index (k := i) rfl ((show _ = vif _ (.slice A3 (outcomes_f m parent (l.take 250) slot).length c3) from d32_6).trans (vif_t hg).symm) ((show _ = vif _ (.int .i64 ((i : Nat) : Int)) from d32_7).trans (vif_t hg).symm) sl37 (hR3.getA (get_bang (l := outcomes_f m parent (l.take 250) slot) (k := i) (by omega))).1 rfl (by omega) rfl))
    · intro f33 w33 hx33 ho33 hd33
      have d33_2 : f33 45 = (.bool (!(decided_f m parent (l.take 250) ((outcomes_f m parent (l.take 250) slot)[i]!)))) := hd33 2 rfl
      have d33_8 : f33 51 = (vif (!(!(decided_f m parent (l.take 250) ((outcomes_f m parent (l.take 250) slot)[i]!)))) (.pointer (some ((adr A3).add (i * 11))))) := hd33 8 rfl
      have hR_l := hR_l.ext hx33
      have hB1 := hB1.ext hx33
      have hR2 := hR2.ext hx33
      have hR3 := hR3.ext hx33
      have hR4 := hR4.ext hx33
      have hR22_11 := hR22_11.ext hx33
      exact D.guardv (wanted_no rfl rfl d33_2) (fun hg => by have hp := hg; (try simp only [Bool.and_eq_true, Bool.or_eq_true, Bool.not_eq_true', decide_eq_true_eq, decide_eq_false_iff_not, bne_iff_ne, beq_iff_eq] at hp); skip; exact (op_load (v := (outcomes_f m parent (l.take 250) slot)[i]!) rfl ((show _ = vif _ (.pointer (some ((adr A3).add (i * 11)))) from d33_8).trans (vif_t hg).symm) ty49 (hR3.getA (get_bang (l := outcomes_f m parent (l.take 250) slot) (k := i) (by omega))).2))
    · intro f34 w34 hx34 ho34 hd34
      have d34_2 : f34 45 = (.bool (!(decided_f m parent (l.take 250) ((outcomes_f m parent (l.take 250) slot)[i]!)))) := hd34 2 rfl
      have d34_3 : f34 46 = (vif (!(!(decided_f m parent (l.take 250) ((outcomes_f m parent (l.take 250) slot)[i]!)))) (.int .i64 m)) := hd34 3 rfl
      have d34_4 : f34 47 = (vif (!(!(decided_f m parent (l.take 250) ((outcomes_f m parent (l.take 250) slot)[i]!)))) (Enc.val (parent : Nm))) := hd34 4 rfl
      have d34_5 : f34 48 = (vif (!(!(decided_f m parent (l.take 250) ((outcomes_f m parent (l.take 250) slot)[i]!)))) (.slice A22_11 (closure_f m parent (l.take 250) ((outcomes_f m parent (l.take 250) slot)[i]!)).length c22_11)) := hd34 5 rfl
      have d34_9 : f34 52 = (vif (!(!(decided_f m parent (l.take 250) ((outcomes_f m parent (l.take 250) slot)[i]!)))) (Enc.val ((outcomes_f m parent (l.take 250) slot)[i]!))) := hd34 9 rfl
      have hR_l := hR_l.ext hx34
      have hB1 := hB1.ext hx34
      have hR2 := hR2.ext hx34
      have hR3 := hR3.ext hx34
      have hR4 := hR4.ext hx34
      have hR22_11 := hR22_11.ext hx34
      exact D.guardc (wanted_no rfl rfl d34_2) (fun hg => by have hp := hg; (try simp only [Bool.and_eq_true, Bool.or_eq_true, Bool.not_eq_true', decide_eq_true_eq, decide_eq_false_iff_not, bne_iff_ne, beq_iff_eq] at hp); exact (OpS.call (op_call rfl (argsC ((show _ = vif _ (.int .i64 m) from d34_3).trans (vif_t hg).symm) (argsC ((show _ = vif _ (Enc.val (parent : Nm)) from d34_4).trans (vif_t hg).symm) (argsC ((show _ = vif _ (.slice A22_11 (closure_f m parent (l.take 250) ((outcomes_f m parent (l.take 250) slot)[i]!)).length c22_11) from d34_5).trans (vif_t hg).symm) (argsC ((show _ = vif _ (Enc.val ((outcomes_f m parent (l.take 250) slot)[i]!)) from d34_9).trans (vif_t hg).symm) argsN)))) Try.func48 rfl rfl) (Check_ok hR22_11 (by first | omega | (simp only [List.length_drop, List.length_take, List.length_append, List.length_cons, List.length_nil] at *; omega)))))
    · intro f35 w35 hx35 ho35 hd35
      have d35_2 : f35 45 = (.bool (!(decided_f m parent (l.take 250) ((outcomes_f m parent (l.take 250) slot)[i]!)))) := hd35 2 rfl
      have d35_10 : f35 53 = (vif (!(!(decided_f m parent (l.take 250) ((outcomes_f m parent (l.take 250) slot)[i]!)))) (.bool (decided_f m parent (closure_f m parent (l.take 250) ((outcomes_f m parent (l.take 250) slot)[i]!)) ((outcomes_f m parent (l.take 250) slot)[i]!)))) := hd35 10 rfl
      exact D.guardv (wanted_no rfl rfl d35_2) (fun hg => (op_not rfl ((show _ = vif _ (.bool (decided_f m parent (closure_f m parent (l.take 250) ((outcomes_f m parent (l.take 250) slot)[i]!)) ((outcomes_f m parent (l.take 250) slot)[i]!))) from d35_10).trans (vif_t hg).symm)))
    · intro f36 w36 hx36 ho36 hd36
      have d36_2 : f36 45 = (.bool (!(decided_f m parent (l.take 250) ((outcomes_f m parent (l.take 250) slot)[i]!)))) := hd36 2 rfl
      have d36_11 : f36 54 = (vif (!(!(decided_f m parent (l.take 250) ((outcomes_f m parent (l.take 250) slot)[i]!)))) (.bool (!(decided_f m parent (closure_f m parent (l.take 250) ((outcomes_f m parent (l.take 250) slot)[i]!)) ((outcomes_f m parent (l.take 250) slot)[i]!))))) := hd36 11 rfl
      exact D.val rfl (op_or rfl d36_2 rfl d36_11)
    · intro f37 w37 hx37 ho37 hd37
      have d37_12 : f37 55 = (.bool ((!(decided_f m parent (l.take 250) ((outcomes_f m parent (l.take 250) slot)[i]!))) || (!(decided_f m parent (closure_f m parent (l.take 250) ((outcomes_f m parent (l.take 250) slot)[i]!)) ((outcomes_f m parent (l.take 250) slot)[i]!))))) := hd37 12 rfl
      exact D.val rfl (op_move rfl d37_12)
    · intro f38 w38 hx38 ho38 hd38
      have d38_s0 : f38 0 = (.int .i64 m) := (ho38 0 rfl).trans s0
      have d38_13 : f38 56 = (.bool ((!(decided_f m parent (l.take 250) ((outcomes_f m parent (l.take 250) slot)[i]!))) || (!(decided_f m parent (closure_f m parent (l.take 250) ((outcomes_f m parent (l.take 250) slot)[i]!)) ((outcomes_f m parent (l.take 250) slot)[i]!))))) := hd38 13 rfl
      exact D.guardv (wanted_no rfl rfl d38_13) (fun hg => (op_move rfl d38_s0))
    · intro f39 w39 hx39 ho39 hd39
      have d39_s5 : f39 5 = (.pointer (some ⟨b1, 0, none⟩)) := (ho39 5 rfl).trans s5
      have d39_13 : f39 56 = (.bool ((!(decided_f m parent (l.take 250) ((outcomes_f m parent (l.take 250) slot)[i]!))) || (!(decided_f m parent (closure_f m parent (l.take 250) ((outcomes_f m parent (l.take 250) slot)[i]!)) ((outcomes_f m parent (l.take 250) slot)[i]!))))) := hd39 13 rfl
      have hR_l := hR_l.ext hx39
      have hB1 := hB1.ext hx39
      have hR2 := hR2.ext hx39
      have hR3 := hR3.ext hx39
      have hR4 := hR4.ext hx39
      have hR22_11 := hR22_11.ext hx39
      exact D.guardv (wanted_no rfl rfl d39_13) (fun hg => (op_load (v := (parent : Nm)) rfl d39_s5 ty24 hB1.cells))
    · intro f40 w40 hx40 ho40 hd40
      have d40_s12 : f40 12 = (.slice A22_11 (closure_f m parent (l.take 250) ((outcomes_f m parent (l.take 250) slot)[i]!)).length c22_11) := (ho40 12 rfl).trans e22_11
      have d40_13 : f40 56 = (.bool ((!(decided_f m parent (l.take 250) ((outcomes_f m parent (l.take 250) slot)[i]!))) || (!(decided_f m parent (closure_f m parent (l.take 250) ((outcomes_f m parent (l.take 250) slot)[i]!)) ((outcomes_f m parent (l.take 250) slot)[i]!))))) := hd40 13 rfl
      exact D.guardv (wanted_no rfl rfl d40_13) (fun hg => (op_move rfl d40_s12))
    · intro f41 w41 hx41 ho41 hd41
      have d41_13 : f41 56 = (.bool ((!(decided_f m parent (l.take 250) ((outcomes_f m parent (l.take 250) slot)[i]!))) || (!(decided_f m parent (closure_f m parent (l.take 250) ((outcomes_f m parent (l.take 250) slot)[i]!)) ((outcomes_f m parent (l.take 250) slot)[i]!))))) := hd41 13 rfl
      have d41_14 : f41 57 = (vif (!((!(decided_f m parent (l.take 250) ((outcomes_f m parent (l.take 250) slot)[i]!))) || (!(decided_f m parent (closure_f m parent (l.take 250) ((outcomes_f m parent (l.take 250) slot)[i]!)) ((outcomes_f m parent (l.take 250) slot)[i]!))))) (.int .i64 m)) := hd41 14 rfl
      have d41_15 : f41 58 = (vif (!((!(decided_f m parent (l.take 250) ((outcomes_f m parent (l.take 250) slot)[i]!))) || (!(decided_f m parent (closure_f m parent (l.take 250) ((outcomes_f m parent (l.take 250) slot)[i]!)) ((outcomes_f m parent (l.take 250) slot)[i]!))))) (Enc.val (parent : Nm))) := hd41 15 rfl
      have d41_16 : f41 59 = (vif (!((!(decided_f m parent (l.take 250) ((outcomes_f m parent (l.take 250) slot)[i]!))) || (!(decided_f m parent (closure_f m parent (l.take 250) ((outcomes_f m parent (l.take 250) slot)[i]!)) ((outcomes_f m parent (l.take 250) slot)[i]!))))) (.slice A22_11 (closure_f m parent (l.take 250) ((outcomes_f m parent (l.take 250) slot)[i]!)).length c22_11)) := hd41 16 rfl
      have hR_l := hR_l.ext hx41
      have hB1 := hB1.ext hx41
      have hR2 := hR2.ext hx41
      have hR3 := hR3.ext hx41
      have hR4 := hR4.ext hx41
      have hR22_11 := hR22_11.ext hx41
      exact D.guardsl (l := (accepted_f m parent (closure_f m parent (l.take 250) ((outcomes_f m parent (l.take 250) slot)[i]!)) : List Vt)) (wanted_no rfl rfl d41_13) (fun hg => by have hp := hg; (try simp only [Bool.and_eq_true, Bool.or_eq_true, Bool.not_eq_true', decide_eq_true_eq, decide_eq_false_iff_not, bne_iff_ne, beq_iff_eq] at hp); exact (OpS.call (op_call rfl (argsC ((show _ = vif _ (.int .i64 m) from d41_14).trans (vif_t hg).symm) (argsC ((show _ = vif _ (Enc.val (parent : Nm)) from d41_15).trans (vif_t hg).symm) (argsC ((show _ = vif _ (.slice A22_11 (closure_f m parent (l.take 250) ((outcomes_f m parent (l.take 250) slot)[i]!)).length c22_11) from d41_16).trans (vif_t hg).symm) argsN))) Try.func18 rfl rfl) (Accepted_ok hR22_11 (by first | omega | (simp only [List.length_drop, List.length_take, List.length_append, List.length_cons, List.length_nil] at *; omega)))))
    · intro f42 w42 hx42 ho42 hd42
      have d42_s12 : f42 12 = (.slice A22_11 (closure_f m parent (l.take 250) ((outcomes_f m parent (l.take 250) slot)[i]!)).length c22_11) := (ho42 12 rfl).trans e22_11
      have d42_13 : f42 56 = (.bool ((!(decided_f m parent (l.take 250) ((outcomes_f m parent (l.take 250) slot)[i]!))) || (!(decided_f m parent (closure_f m parent (l.take 250) ((outcomes_f m parent (l.take 250) slot)[i]!)) ((outcomes_f m parent (l.take 250) slot)[i]!))))) := hd42 13 rfl
      exact D.guardv (wanted_no rfl rfl d42_13) (fun hg => (op_move rfl d42_s12))
    · intro f43 w43 hx43 ho43 hd43
      have d43_13 : f43 56 = (.bool ((!(decided_f m parent (l.take 250) ((outcomes_f m parent (l.take 250) slot)[i]!))) || (!(decided_f m parent (closure_f m parent (l.take 250) ((outcomes_f m parent (l.take 250) slot)[i]!)) ((outcomes_f m parent (l.take 250) slot)[i]!))))) := hd43 13 rfl
      have d43_18 : f43 61 = (vif (!((!(decided_f m parent (l.take 250) ((outcomes_f m parent (l.take 250) slot)[i]!))) || (!(decided_f m parent (closure_f m parent (l.take 250) ((outcomes_f m parent (l.take 250) slot)[i]!)) ((outcomes_f m parent (l.take 250) slot)[i]!))))) (.slice A22_11 (closure_f m parent (l.take 250) ((outcomes_f m parent (l.take 250) slot)[i]!)).length c22_11)) := hd43 18 rfl
      have hR_l := hR_l.ext hx43
      have hB1 := hB1.ext hx43
      have hR2 := hR2.ext hx43
      have hR3 := hR3.ext hx43
      have hR4 := hR4.ext hx43
      have hR22_11 := hR22_11.ext hx43
      exact D.guardc (wanted_no rfl rfl d43_13) (fun hg => by have hp := hg; (try simp only [Bool.and_eq_true, Bool.or_eq_true, Bool.not_eq_true', decide_eq_true_eq, decide_eq_false_iff_not, bne_iff_ne, beq_iff_eq] at hp); obtain ⟨A43_17, c43_17, lo43_17, hi43_17, e43_17, hcap43_17, hR43_17⟩ := (hd43 17 rfl).1 hg; have hlen43_17 := hR43_17.len; exact (OpS.call (op_call rfl (argsC e43_17 (argsC ((show _ = vif _ (.slice A22_11 (closure_f m parent (l.take 250) ((outcomes_f m parent (l.take 250) slot)[i]!)).length c22_11) from d43_18).trans (vif_t hg).symm) argsN)) Try.func49 rfl rfl) (same13_ok hR43_17 hR22_11)))
    · intro f44 w44 hx44 ho44 hd44
      have d44_13 : f44 56 = (.bool ((!(decided_f m parent (l.take 250) ((outcomes_f m parent (l.take 250) slot)[i]!))) || (!(decided_f m parent (closure_f m parent (l.take 250) ((outcomes_f m parent (l.take 250) slot)[i]!)) ((outcomes_f m parent (l.take 250) slot)[i]!))))) := hd44 13 rfl
      have d44_19 : f44 62 = (vif (!((!(decided_f m parent (l.take 250) ((outcomes_f m parent (l.take 250) slot)[i]!))) || (!(decided_f m parent (closure_f m parent (l.take 250) ((outcomes_f m parent (l.take 250) slot)[i]!)) ((outcomes_f m parent (l.take 250) slot)[i]!))))) (.bool (decide (accepted_f m parent (closure_f m parent (l.take 250) ((outcomes_f m parent (l.take 250) slot)[i]!)) = closure_f m parent (l.take 250) ((outcomes_f m parent (l.take 250) slot)[i]!))))) := hd44 19 rfl
      exact D.guardv (wanted_no rfl rfl d44_13) (fun hg => (op_not rfl ((show _ = vif _ (.bool (decide (accepted_f m parent (closure_f m parent (l.take 250) ((outcomes_f m parent (l.take 250) slot)[i]!)) = closure_f m parent (l.take 250) ((outcomes_f m parent (l.take 250) slot)[i]!)))) from d44_19).trans (vif_t hg).symm)))
    · intro f45 w45 hx45 ho45 hd45
      have d45_13 : f45 56 = (.bool ((!(decided_f m parent (l.take 250) ((outcomes_f m parent (l.take 250) slot)[i]!))) || (!(decided_f m parent (closure_f m parent (l.take 250) ((outcomes_f m parent (l.take 250) slot)[i]!)) ((outcomes_f m parent (l.take 250) slot)[i]!))))) := hd45 13 rfl
      have d45_20 : f45 63 = (vif (!((!(decided_f m parent (l.take 250) ((outcomes_f m parent (l.take 250) slot)[i]!))) || (!(decided_f m parent (closure_f m parent (l.take 250) ((outcomes_f m parent (l.take 250) slot)[i]!)) ((outcomes_f m parent (l.take 250) slot)[i]!))))) (.bool (!(decide (accepted_f m parent (closure_f m parent (l.take 250) ((outcomes_f m parent (l.take 250) slot)[i]!)) = closure_f m parent (l.take 250) ((outcomes_f m parent (l.take 250) slot)[i]!)))))) := hd45 20 rfl
      exact D.val rfl (op_or rfl d45_13 rfl d45_20)
    intro f46 w46 hx46 ho46 hr46
    have s0 : f46 0 = (.int .i64 m) := (ho46 0 rfl).trans s0
    have s2 : f46 2 = (.slice A2 (l.take 250).length c2) := (ho46 2 rfl).trans s2
    have s3 : f46 3 = (.int .i64 slot) := (ho46 3 rfl).trans s3
    have s5 : f46 5 = (.pointer (some ⟨b1, 0, none⟩)) := (ho46 5 rfl).trans s5
    have s9 : f46 9 = (.slice A3 (outcomes_f m parent (l.take 250) slot).length c3) := (ho46 9 rfl).trans s9
    have s10 : f46 10 = (.slice A4 (accepted_f m parent (l.take 250)).length c4) := (ho46 10 rfl).trans s10
    have s11 : f46 11 = (.int .i64 ((i : Nat) : Int)) := (ho46 11 rfl).trans s11
    have s12 : f46 12 = (.slice A22_11 (closure_f m parent (l.take 250) ((outcomes_f m parent (l.take 250) slot)[i]!)).length c22_11) := (ho46 12 rfl).trans e22_11
    have s13 : f46 13 = (.bool (decided_f m parent (l.take 250) ((outcomes_f m parent (l.take 250) slot)[i]!))) := (ho46 13 rfl).trans s13
    have s29 : f46 29 = (.bool (decide (((i : Nat) : Int) < ((outcomes_f m parent (l.take 250) slot).length : Int)))) := (ho46 29 rfl).trans s29
    have s64 : f46 64 = (.bool (((!(decided_f m parent (l.take 250) ((outcomes_f m parent (l.take 250) slot)[i]!))) || (!(decided_f m parent (closure_f m parent (l.take 250) ((outcomes_f m parent (l.take 250) slot)[i]!)) ((outcomes_f m parent (l.take 250) slot)[i]!)))) || (!(decide (accepted_f m parent (closure_f m parent (l.take 250) ((outcomes_f m parent (l.take 250) slot)[i]!)) = closure_f m parent (l.take 250) ((outcomes_f m parent (l.take 250) slot)[i]!)))))) := hr46 21 (by decide)
    have hE := hE.trans hx46
    have hS5 := hS5.trans hx46
    have hR_l := hR_l.ext hx46
    have hB1 := hB1.ext hx46
    have hR2 := hR2.ext hx46
    have hR3 := hR3.ext hx46
    have hR4 := hR4.ext hx46
    have hR22_11 := hR22_11.ext hx46
    refine thenF_nor ?_
    refine W.cond (t := ((!(decided_f m parent (l.take 250) ((outcomes_f m parent (l.take 250) slot)[i]!))) || (!(decided_f m parent (closure_f m parent (l.take 250) ((outcomes_f m parent (l.take 250) slot)[i]!)) ((outcomes_f m parent (l.take 250) slot)[i]!)))) || (!(decide (accepted_f m parent (closure_f m parent (l.take 250) ((outcomes_f m parent (l.take 250) slot)[i]!)) = closure_f m parent (l.take 250) ((outcomes_f m parent (l.take 250) slot)[i]!))))) s64 (fun hc47 => ?_) (fun hc47 => ?_)
    · have hp47 := hc47
      simp only [Bool.and_eq_true, Bool.or_eq_true, Bool.and_eq_false_iff, Bool.or_eq_false_iff, Bool.not_eq_true', Bool.not_eq_false', decide_eq_true_eq, decide_eq_false_iff_not] at hp47
      exact absurd hc47 (by rw [stands1 m parent (l.take 250) slot i (by omega)]; simp)
    · have hp47 := hc47
      simp only [Bool.and_eq_true, Bool.or_eq_true, Bool.and_eq_false_iff, Bool.or_eq_false_iff, Bool.not_eq_true', Bool.not_eq_false', decide_eq_true_eq, decide_eq_false_iff_not] at hp47
      refine W.skip ?_
      refine thenF_nor ?_
      refine W.seq ?_
      refine W.region (by rfl) ?_
      refine L.val rfl (op_assign rfl rfl) ?_
      refine L.nil ?_
      refine thenF_nor ?_
      refine W.block ?_
      have S48_hR_l := hR_l
      have S48_hB1 := hB1
      have S48_hR2 := hR2
      have S48_hR3 := hR3
      have S48_hR4 := hR4
      have S48_hR22_11 := hR22_11
      have S48_hE := hE
      have S48_hS5 := hS5
      have hS48 : Ext w46 w46 := Ext.refl _
      refine W.loopg (γ := Nat) (fun (k : Nat) (f : Fr) (ww : World) => k ≤ (closure_f m parent (l.take 250) (outcomes_f m parent (l.take 250) slot)[i]!).length ∧ f 0 = (.int .i64 m) ∧ f 2 = (.slice A2 (l.take 250).length c2) ∧ f 3 = (.int .i64 slot) ∧ f 5 = (.pointer (some ⟨b1, 0, none⟩)) ∧ f 9 = (.slice A3 (outcomes_f m parent (l.take 250) slot).length c3) ∧ f 10 = (.slice A4 (accepted_f m parent (l.take 250)).length c4) ∧ f 11 = (.int .i64 ((i : Nat) : Int)) ∧ f 12 = (.slice A22_11 (closure_f m parent (l.take 250) ((outcomes_f m parent (l.take 250) slot)[i]!)).length c22_11) ∧ f 13 = (.bool (decided_f m parent (l.take 250) ((outcomes_f m parent (l.take 250) slot)[i]!))) ∧ f 29 = (.bool (decide (((i : Nat) : Int) < ((outcomes_f m parent (l.take 250) slot).length : Int)))) ∧ f 64 = (.bool (((!(decided_f m parent (l.take 250) ((outcomes_f m parent (l.take 250) slot)[i]!))) || (!(decided_f m parent (closure_f m parent (l.take 250) ((outcomes_f m parent (l.take 250) slot)[i]!)) ((outcomes_f m parent (l.take 250) slot)[i]!)))) || (!(decide (accepted_f m parent (closure_f m parent (l.take 250) ((outcomes_f m parent (l.take 250) slot)[i]!)) = closure_f m parent (l.take 250) ((outcomes_f m parent (l.take 250) slot)[i]!)))))) ∧ f 14 = (.int .i64 ((k : Nat) : Int)) ∧ Ext w46 ww) (fun (k : Nat) => (closure_f m parent (l.take 250) (outcomes_f m parent (l.take 250) slot)[i]!).length - k) 0 ⟨(by (try dsimp only); omega), s0, s2, s3, s5, s9, s10, s11, s12, s13, s29, s64, rfl, hS48⟩ ?_
      rintro k f49 w49 ⟨hk, s49_0, s49_2, s49_3, s49_5, s49_9, s49_10, s49_11, s49_12, s49_13, s49_29, s49_64, s49_14, hS48⟩
      have hR_l := S48_hR_l.ext hS48
      have hB1 := S48_hB1.ext hS48
      have hR2 := S48_hR2.ext hS48
      have hR3 := S48_hR3.ext hS48
      have hR4 := S48_hR4.ext hS48
      have hR22_11 := S48_hR22_11.ext hS48
      have hE := S48_hE.trans hS48
      have hS5 := S48_hS5.trans hS48
      refine W.seq ?_
      refine W.seq ?_
      refine W.region (by rfl) ?_
      refine L.val rfl (op_move rfl s49_14) ?_
      refine L.val rfl (op_move rfl s49_12) ?_
      refine L.val rfl (op_len rfl rfl ln25) ?_
      refine L.val rfl (op_lss rfl rfl rfl) ?_
      refine L.nil ?_
      refine thenF_nor ?_
      refine W.cond (t := decide (((k : Nat) : Int) < ((closure_f m parent (l.take 250) ((outcomes_f m parent (l.take 250) slot)[i]!)).length : Int))) rfl (fun hc50 => ?_) (fun hc50 => ?_)
      · have hp50 := hc50
        simp only [Bool.and_eq_true, Bool.or_eq_true, Bool.and_eq_false_iff, Bool.or_eq_false_iff, Bool.not_eq_true', Bool.not_eq_false', decide_eq_true_eq, decide_eq_false_iff_not] at hp50
        refine W.skip ?_
        refine thenF_nor ?_
        refine W.seq ?_
        refine W.block ?_
        refine W.seq ?_
        refine W.region (by rfl) ?_
        refine L.val rfl (op_move rfl s49_10) ?_
        refine L.val rfl (op_move rfl s49_12) ?_
        refine L.val rfl (op_move rfl s49_14) ?_
        refine L.val rfl (op_index (k := k) rfl rfl rfl sl25 (hR22_11.getA (get_bang (l := closure_f m parent (l.take 250) ((outcomes_f m parent (l.take 250) slot)[i]!)) (k := k) (by omega))).1 rfl (by omega) rfl) ?_
        refine L.val rfl (op_load (v := (closure_f m parent (l.take 250) ((outcomes_f m parent (l.take 250) slot)[i]!))[k]!) rfl rfl ty28 (hR22_11.getA (get_bang (l := closure_f m parent (l.take 250) ((outcomes_f m parent (l.take 250) slot)[i]!)) (k := k) (by omega))).2) ?_
        refine L.call (v := (.bool ((accepted_f m parent (l.take 250)).any (fun x => decide (x = (closure_f m parent (l.take 250) ((outcomes_f m parent (l.take 250) slot)[i]!))[k]!))))) rfl (OpS.call (op_call rfl (argsC rfl (argsC rfl argsN)) Try.func50 rfl rfl) (has13_ok hR4)) ?_
        intro w51 hx51
        have hE := hE.trans hx51
        have hS5 := hS5.trans hx51
        have hS48 := hS48.trans hx51
        have hR_l := hR_l.ext hx51
        have hB1 := hB1.ext hx51
        have hR2 := hR2.ext hx51
        have hR3 := hR3.ext hx51
        have hR4 := hR4.ext hx51
        have hR22_11 := hR22_11.ext hx51
        refine L.val rfl (op_not rfl rfl) ?_
        refine L.val rfl (op_move rfl rfl) ?_
        refine L.guardv (v := (.slice A22_11 (closure_f m parent (l.take 250) ((outcomes_f m parent (l.take 250) slot)[i]!)).length c22_11)) (wanted_no rfl rfl rfl) (fun hg => (op_move rfl s49_12)) ?_
        refine L.guardv (v := (.int .i64 ((k : Nat) : Int))) (wanted_no rfl rfl rfl) (fun hg => (op_move rfl s49_14)) ?_
        refine L.guardv (v := (.pointer (some ((adr A22_11).add (k * 22))))) (wanted_no rfl rfl rfl) (fun hg => by have hp := hg; (try simp only [Bool.and_eq_true, Bool.or_eq_true, Bool.not_eq_true', decide_eq_true_eq, decide_eq_false_iff_not, bne_iff_ne, beq_iff_eq] at hp); exact (op_index (k := k) rfl ((show _ = vif _ (.slice A22_11 (closure_f m parent (l.take 250) ((outcomes_f m parent (l.take 250) slot)[i]!)).length c22_11) from rfl).trans (vif_t hg).symm) ((show _ = vif _ (.int .i64 ((k : Nat) : Int)) from rfl).trans (vif_t hg).symm) sl25 (hR22_11.getA (get_bang (l := closure_f m parent (l.take 250) ((outcomes_f m parent (l.take 250) slot)[i]!)) (k := k) (by omega))).1 rfl (by omega) rfl)) ?_
        refine L.guardv (v := (.pointer (some (((adr A22_11).add (k * 22)).add 1)))) (wanted_no rfl rfl rfl) (fun hg => (op_field rfl ((show _ = vif _ (.pointer (some ((adr A22_11).add (k * 22)))) from rfl).trans (vif_t hg).symm) fo28_1 rfl)) ?_
        refine L.guardv (v := (.int .i64 (((closure_f m parent (l.take 250) ((outcomes_f m parent (l.take 250) slot)[i]!))[k]!).slot))) (wanted_no rfl rfl rfl) (fun hg => by have hp := hg; (try simp only [Bool.and_eq_true, Bool.or_eq_true, Bool.not_eq_true', decide_eq_true_eq, decide_eq_false_iff_not, bne_iff_ne, beq_iff_eq] at hp); exact (op_load1 rfl ((show _ = vif _ (.pointer (some (((adr A22_11).add (k * 22)).add 1))) from rfl).trans (vif_t hg).symm) one3 ((hR22_11.getA (get_bang (l := closure_f m parent (l.take 250) ((outcomes_f m parent (l.take 250) slot)[i]!)) (k := k) (by omega))).2.one (n := 1) rfl))) ?_
        refine L.guardv (v := (.int .i64 slot)) (wanted_no rfl rfl rfl) (fun hg => (op_move rfl s49_3)) ?_
        refine L.guardv (v := (.bool (!decide ((((closure_f m parent (l.take 250) ((outcomes_f m parent (l.take 250) slot)[i]!))[k]!).slot) = slot)))) (wanted_no rfl rfl rfl) (fun hg => (op_neq rfl ((show _ = vif _ (.int .i64 (((closure_f m parent (l.take 250) ((outcomes_f m parent (l.take 250) slot)[i]!))[k]!).slot)) from rfl).trans (vif_t hg).symm) ((show _ = vif _ (.int .i64 slot) from rfl).trans (vif_t hg).symm))) ?_
        refine L.val rfl (op_or rfl rfl rfl rfl) ?_
        refine L.nil ?_
        refine thenF_nor ?_
        refine W.cond (t := (!((accepted_f m parent (l.take 250)).any (fun x => decide (x = (closure_f m parent (l.take 250) ((outcomes_f m parent (l.take 250) slot)[i]!))[k]!)))) || (!decide ((((closure_f m parent (l.take 250) ((outcomes_f m parent (l.take 250) slot)[i]!))[k]!).slot) = slot))) rfl (fun hc52 => ?_) (fun hc52 => ?_)
        · have hp52 := hc52
          simp only [Bool.and_eq_true, Bool.or_eq_true, Bool.and_eq_false_iff, Bool.or_eq_false_iff, Bool.not_eq_true', Bool.not_eq_false', decide_eq_true_eq, decide_eq_false_iff_not] at hp52
          exact absurd hc52 (by rw [stands2 m parent (l.take 250) slot i k (by omega) (by omega)]; simp)
        · have hp52 := hc52
          simp only [Bool.and_eq_true, Bool.or_eq_true, Bool.and_eq_false_iff, Bool.or_eq_false_iff, Bool.not_eq_true', Bool.not_eq_false', decide_eq_true_eq, decide_eq_false_iff_not] at hp52
          refine W.skip ?_
          refine blockF_nor ?_
          refine thenF_nor ?_
          refine W.region (by rfl) ?_
          refine L.val rfl (op_move rfl s49_14) ?_
          refine L.val rfl (op_add (c := ((k + 1 : Nat) : Int)) rfl rfl rfl (by omega) (by omega)) ?_
          refine L.val rfl (op_assign rfl rfl) ?_
          refine L.nil ?_
          refine thenF_nor ?_
          exact ⟨k + 1, ⟨(by (try dsimp only); omega), s49_0, s49_2, s49_3, s49_5, s49_9, s49_10, s49_11, s49_12, s49_13, s49_29, s49_64, rfl, hS48⟩, (by (try dsimp only); omega)⟩
      · have hp50 := hc50
        simp only [Bool.and_eq_true, Bool.or_eq_true, Bool.and_eq_false_iff, Bool.or_eq_false_iff, Bool.not_eq_true', Bool.not_eq_false', decide_eq_true_eq, decide_eq_false_iff_not] at hp50
        refine W.exit ?_
        refine thenF_exit ?_
        refine thenF_exit ?_
        refine blockF_hit ?_
        refine blockF_nor ?_
        refine thenF_nor ?_
        refine W.region (by rfl) ?_
        refine L.val rfl (op_move rfl s49_11) ?_
        refine L.val rfl (op_add (c := ((i + 1 : Nat) : Int)) rfl rfl rfl (by omega) (by omega)) ?_
        refine L.val rfl (op_assign rfl rfl) ?_
        refine L.nil ?_
        refine thenF_nor ?_
        exact ⟨i + 1, ⟨(by (try dsimp only); omega), s49_0, s49_2, s49_3, s49_5, s49_9, s49_10, rfl, hS5⟩, (by (try dsimp only); omega)⟩
  · have hp7 := hc7
    simp only [Bool.and_eq_true, Bool.or_eq_true, Bool.and_eq_false_iff, Bool.or_eq_false_iff, Bool.not_eq_true', Bool.not_eq_false', decide_eq_true_eq, decide_eq_false_iff_not] at hp7
    refine W.exit ?_
    refine thenF_exit ?_
    refine thenF_exit ?_
    refine blockF_hit ?_
    refine thenF_nor ?_
    refine W.seq ?_
    refine W.region (by rfl) ?_
    refine L.call (v := (.bool true)) rfl (OpS.call (op_call rfl argsN Try.func51 rfl rfl) awake13_ok) ?_
    intro w53 hx53
    have hE := hE.trans hx53
    have hS5 := hS5.trans hx53
    have hR_l := hR_l.ext hx53
    have hB1 := hB1.ext hx53
    have hR2 := hR2.ext hx53
    have hR3 := hR3.ext hx53
    have hR4 := hR4.ext hx53
    refine L.val (v := (.bool true)) rfl (op_assign rfl rfl) ?_
    refine L.nil ?_
    refine thenF_nor ?_
    refine W.ret ?_
    exact end_ret1 (v := (.bool true)) rfl rfl ⟨rfl, hE⟩

end Go.Proofs.Ytdknjfmjddlphaa
