/-
  Contracts of functions of the program, each with its walk in the logic of frames. Printed by a program of this session (wip/gen) from the translation.
-/
import Derived.Test.YtdknjfmjddlphaaGC5b
import Derived.Test.YtdknjfmjddlphaaLaw13b
import Derived.Test.YtdknjfmjddlphaaDrawY
set_option linter.unusedSimpArgs false
set_option linter.unusedVariables false
namespace Go.Proofs.Ytdknjfmjddlphaa
open Go Go.Fk

set_option maxRecDepth 100000 in
set_option maxHeartbeats 16000000 in
theorem CertificateSheds_ok {m : Int} {parent : Nm} {A_l : Option Addr} {c_l lo_l hi_l : Nat} {l : List Vt} {A_mm : Option Addr} {c_mm lo_mm hi_mm : Nat} {mm : List Vt} {slot : Int}  {w : World} (hR_l : Rd w lo_l hi_l A_l l) (hcap_l : l.length ≤ c_l) (hR_mm : Rd w lo_mm hi_mm A_mm mm) (hcap_mm : mm.length ≤ c_mm) : Gives Try.prog 16 #[(.int .i64 m), (Enc.val (parent : Nm)), (.slice A_l l.length c_l), (.slice A_mm mm.length c_mm), (.int .i64 slot)] w fun u w' => u = (.bool true) ∧ Ext w w' := by
  have hE : Ext w w := Ext.refl w
  have hlen_l := hR_l.len
  have hlen_mm := hR_mm.len
  refine gives_of_W Try.func16 rfl Try.ntmps16 rfl ?_
  have htl : (l.take 250).length ≤ 250 := List.length_take_le _ _
  have htm : (mm.take 250).length ≤ 250 := List.length_take_le _ _
  refine W.seq ?_
  refine W.region (by rfl) ?_
  refine L.step rfl (op_box (cs := (Enc.cells (parent : Nm))) rfl rfl rfl) ?_
  rintro _ w1 ⟨b1, rfl, hb1, hB1, hx1⟩
  have hE := hE.trans hx1
  have hR_l := hR_l.ext hx1
  have hR_mm := hR_mm.ext hx1
  refine L.val (v := (.bool false)) rfl (op_assign rfl rfl) ?_
  refine L.nil ?_
  refine thenF_nor ?_
  refine W.seq ?_
  refine W.region (by rfl) ?_
  refine L.val rfl (op_move rfl rfl) ?_
  refine L.step rfl (OpS.call (op_call rfl (argsC rfl argsN) Try.func46 rfl rfl) (cut13_ok hR_l hcap_l)) ?_
  rintro _ w2 ⟨⟨A2, c2, lo2, hi2, rfl, hcap2, hR2⟩, hx2⟩
  have hE := hE.trans hx2
  have hR_l := hR_l.ext hx2
  have hR_mm := hR_mm.ext hx2
  have hB1 := hB1.ext hx2
  have hlen2 := hR2.len
  refine L.val rfl (op_move rfl rfl) ?_
  refine L.step rfl (OpS.call (op_call rfl (argsC rfl argsN) Try.func46 rfl rfl) (cut13_ok hR_mm hcap_mm)) ?_
  rintro _ w3 ⟨⟨A3, c3, lo3, hi3, rfl, hcap3, hR3⟩, hx3⟩
  have hE := hE.trans hx3
  have hR_l := hR_l.ext hx3
  have hR_mm := hR_mm.ext hx3
  have hB1 := hB1.ext hx3
  have hR2 := hR2.ext hx3
  have hlen3 := hR3.len
  refine L.val rfl (op_assign rfl rfl) ?_
  refine L.val rfl (op_assign rfl rfl) ?_
  refine L.nil ?_
  refine thenF_nor ?_
  refine W.seq ?_
  refine W.region (by rfl) ?_
  refine L.val rfl (op_move rfl rfl) ?_
  refine L.val rfl (op_load (v := (parent : Nm)) rfl rfl ty24 hB1.cells) ?_
  refine L.val rfl (op_move rfl rfl) ?_
  refine L.val rfl (op_move rfl rfl) ?_
  refine L.step rfl (OpS.call (op_call rfl (argsC rfl (argsC rfl (argsC rfl (argsC rfl argsN)))) Try.func26 rfl rfl) (Outcomes_ok hR2 (by first | omega | (simp only [List.length_drop, List.length_take, List.length_append, List.length_cons, List.length_nil] at *; omega)))) ?_
  rintro _ w4 ⟨⟨A4, c4, lo4, hi4, rfl, hcap4, hR4⟩, hx4⟩
  have hE := hE.trans hx4
  have hR_l := hR_l.ext hx4
  have hR_mm := hR_mm.ext hx4
  have hB1 := hB1.ext hx4
  have hR2 := hR2.ext hx4
  have hR3 := hR3.ext hx4
  have hlen4 := hR4.len
  refine L.val rfl (op_assign rfl rfl) ?_
  refine L.nil ?_
  refine thenF_nor ?_
  refine W.seq ?_
  refine W.seq ?_
  refine W.region (by rfl) ?_
  refine L.val rfl (op_assign rfl rfl) ?_
  refine L.nil ?_
  refine thenF_nor ?_
  refine W.block ?_
  have S5_hR_l := hR_l
  have S5_hR_mm := hR_mm
  have S5_hB1 := hB1
  have S5_hR2 := hR2
  have S5_hR3 := hR3
  have S5_hR4 := hR4
  have S5_hE := hE
  have hS5 : Ext w4 w4 := Ext.refl _
  refine W.loopg (γ := Nat) (fun (i : Nat) (f : Fr) (ww : World) => i ≤ (outcomes_f m parent (l.take 250) slot).length ∧ f 0 = (.int .i64 m) ∧ f 2 = (.slice A2 (l.take 250).length c2) ∧ f 3 = (.slice A3 (mm.take 250).length c3) ∧ f 6 = (.pointer (some ⟨b1, 0, none⟩)) ∧ f 11 = (.slice A4 (outcomes_f m parent (l.take 250) slot).length c4) ∧ f 12 = (.int .i64 ((i : Nat) : Int)) ∧ Ext w4 ww) (fun (i : Nat) => (outcomes_f m parent (l.take 250) slot).length - i) 0 ⟨(by (try dsimp only); omega), rfl, rfl, rfl, rfl, rfl, rfl, hS5⟩ ?_
  rintro i f6 w6 ⟨hi, s6_0, s6_2, s6_3, s6_6, s6_11, s6_12, hS5⟩
  have hR_l := S5_hR_l.ext hS5
  have hR_mm := S5_hR_mm.ext hS5
  have hB1 := S5_hB1.ext hS5
  have hR2 := S5_hR2.ext hS5
  have hR3 := S5_hR3.ext hS5
  have hR4 := S5_hR4.ext hS5
  have hE := S5_hE.trans hS5
  refine W.seq ?_
  refine W.seq ?_
  refine W.region (by rfl) ?_
  refine L.val rfl (op_move rfl s6_12) ?_
  refine L.val rfl (op_move rfl s6_11) ?_
  refine L.val rfl (op_len rfl rfl ln37) ?_
  refine L.val rfl (op_lss rfl rfl rfl) ?_
  refine L.nil ?_
  refine thenF_nor ?_
  refine W.cond (t := decide (((i : Nat) : Int) < ((outcomes_f m parent (l.take 250) slot).length : Int))) rfl (fun hc7 => ?_) (fun hc7 => ?_)
  · have hp7 := hc7
    simp only [Bool.and_eq_true, Bool.or_eq_true, Bool.and_eq_false_iff, Bool.or_eq_false_iff, Bool.not_eq_true', Bool.not_eq_false', decide_eq_true_eq, decide_eq_false_iff_not] at hp7
    have hcl := clo13_len m parent (l.take 250) (outcomes_f m parent (l.take 250) slot)[i]!
    have hcl2 := clo13_len m parent (closure_f m parent (l.take 250) (outcomes_f m parent (l.take 250) slot)[i]!) (outcomes_f m parent (l.take 250) slot)[i]!
    refine W.skip ?_
    refine thenF_nor ?_
    refine W.seq ?_
    refine W.block ?_
    refine W.seq ?_
    refine W.drawS [Sp.eq (.int .i64 m), Sp.eq (Enc.val (parent : Nm)), Sp.eq (.slice A2 (l.take 250).length c2), Sp.eq (.slice A4 (outcomes_f m parent (l.take 250) slot).length c4), Sp.eq (.int .i64 ((i : Nat) : Int)), Sp.eq (.pointer (some ((adr A4).add (i * 11)))), Sp.eq (Enc.val ((outcomes_f m parent (l.take 250) slot)[i]!)), Sp.slq (closure_f m parent (l.take 250) ((outcomes_f m parent (l.take 250) slot)[i]!) : List Vt) (decided_f m parent (l.take 250) ((outcomes_f m parent (l.take 250) slot)[i]!)), Sp.slq (closure_f m parent (l.take 250) ((outcomes_f m parent (l.take 250) slot)[i]!) : List Vt) (decided_f m parent (l.take 250) ((outcomes_f m parent (l.take 250) slot)[i]!)), Sp.slr (closure_f m parent (l.take 250) ((outcomes_f m parent (l.take 250) slot)[i]!) : List Vt), Sp.eq (.bool (decided_f m parent (l.take 250) ((outcomes_f m parent (l.take 250) slot)[i]!))), Sp.slr (closure_f m parent (l.take 250) ((outcomes_f m parent (l.take 250) slot)[i]!) : List Vt), Sp.eq (.bool (decided_f m parent (l.take 250) ((outcomes_f m parent (l.take 250) slot)[i]!)))] mixed (by rfl) (Obls.cons ?_ (Obls.cons ?_ (Obls.cons ?_ (Obls.cons ?_ (Obls.cons ?_ (Obls.cons ?_ (Obls.cons ?_ (Obls.cons ?_ (Obls.cons ?_ (Obls.cons ?_ (Obls.cons ?_ (Obls.cons ?_ (Obls.cons ?_ Obls.nil))))))))))))) ?_
    · intro f9 w9 hx9 ho9 hd9
      have d9_s0 : f9 0 = (.int .i64 m) := (ho9 0 rfl).trans s6_0
      exact D.val rfl (op_move rfl d9_s0)
    · intro f10 w10 hx10 ho10 hd10
      have d10_s6 : f10 6 = (.pointer (some ⟨b1, 0, none⟩)) := (ho10 6 rfl).trans s6_6
      have hR_l := hR_l.ext hx10
      have hR_mm := hR_mm.ext hx10
      have hB1 := hB1.ext hx10
      have hR2 := hR2.ext hx10
      have hR3 := hR3.ext hx10
      have hR4 := hR4.ext hx10
      exact D.val rfl (op_load (v := (parent : Nm)) rfl d10_s6 ty24 hB1.cells)
    · intro f11 w11 hx11 ho11 hd11
      have d11_s2 : f11 2 = (.slice A2 (l.take 250).length c2) := (ho11 2 rfl).trans s6_2
      exact D.val rfl (op_move rfl d11_s2)
    · intro f12 w12 hx12 ho12 hd12
      have d12_s11 : f12 11 = (.slice A4 (outcomes_f m parent (l.take 250) slot).length c4) := (ho12 11 rfl).trans s6_11
      exact D.val rfl (op_move rfl d12_s11)
    · intro f13 w13 hx13 ho13 hd13
      have d13_s12 : f13 12 = (.int .i64 ((i : Nat) : Int)) := (ho13 12 rfl).trans s6_12
      exact D.val rfl (op_move rfl d13_s12)
    · intro f14 w14 hx14 ho14 hd14
      have d14_3 : f14 36 = (.slice A4 (outcomes_f m parent (l.take 250) slot).length c4) := hd14 3 rfl
      have d14_4 : f14 37 = (.int .i64 ((i : Nat) : Int)) := hd14 4 rfl
      have hR_l := hR_l.ext hx14
      have hR_mm := hR_mm.ext hx14
      have hB1 := hB1.ext hx14
      have hR2 := hR2.ext hx14
      have hR3 := hR3.ext hx14
      have hR4 := hR4.ext hx14
      skip
      exact D.val rfl (op_index (k := i) rfl d14_3 d14_4 sl37 (hR4.getA (get_bang (l := outcomes_f m parent (l.take 250) slot) (k := i) (by omega))).1 rfl (by omega) rfl)
    · intro f15 w15 hx15 ho15 hd15
      have d15_5 : f15 38 = (.pointer (some ((adr A4).add (i * 11)))) := hd15 5 rfl
      have hR_l := hR_l.ext hx15
      have hR_mm := hR_mm.ext hx15
      have hB1 := hB1.ext hx15
      have hR2 := hR2.ext hx15
      have hR3 := hR3.ext hx15
      have hR4 := hR4.ext hx15
      skip
      exact D.val rfl (op_load (v := (outcomes_f m parent (l.take 250) slot)[i]!) rfl d15_5 ty49 (hR4.getA (get_bang (l := outcomes_f m parent (l.take 250) slot) (k := i) (by omega))).2)
    · intro f16 w16 hx16 ho16 hd16
      have d16_0 : f16 33 = (.int .i64 m) := hd16 0 rfl
      have d16_1 : f16 34 = (Enc.val (parent : Nm)) := hd16 1 rfl
      have d16_2 : f16 35 = (.slice A2 (l.take 250).length c2) := hd16 2 rfl
      have d16_6 : f16 39 = (Enc.val ((outcomes_f m parent (l.take 250) slot)[i]!)) := hd16 6 rfl
      have hR_l := hR_l.ext hx16
      have hR_mm := hR_mm.ext hx16
      have hB1 := hB1.ext hx16
      have hR2 := hR2.ext hx16
      have hR3 := hR3.ext hx16
      have hR4 := hR4.ext hx16
      exact D.call (R := (Sp.slq (closure_f m parent (l.take 250) ((outcomes_f m parent (l.take 250) slot)[i]!) : List Vt) (decided_f m parent (l.take 250) ((outcomes_f m parent (l.take 250) slot)[i]!))).p) rfl (OpS.mono (OpS.call (op_call rfl (argsC d16_0 (argsC d16_1 (argsC d16_2 (argsC d16_6 argsN)))) Try.func47 rfl rfl) (Closure_ok hR2 (by first | omega | (simp only [List.length_drop, List.length_take, List.length_append, List.length_cons, List.length_nil] at *; omega)))) fun _ _ ⟨⟨q, h1, h2⟩, h3⟩ => ⟨⟨q, h1, h2⟩, h3⟩)
    · intro f17 w17 hx17 ho17 hd17
      exact D.call (R := (Sp.slq (closure_f m parent (l.take 250) ((outcomes_f m parent (l.take 250) slot)[i]!) : List Vt) (decided_f m parent (l.take 250) ((outcomes_f m parent (l.take 250) slot)[i]!))).p) rfl (OpS.val (op_move rfl rfl) ⟨hd17 7 rfl, Ext.refl _⟩)
    · intro f18 w18 hx18 ho18 hd18
      obtain ⟨q18_8, e18_8, A18_8, c18_8, lo18_8, hi18_8, rfl, hcap18_8, hR18_8⟩ := hd18 8 rfl
      have hlen18_8 := hR18_8.len
      exact D.call (R := (Sp.slr (closure_f m parent (l.take 250) ((outcomes_f m parent (l.take 250) slot)[i]!) : List Vt)).p) rfl (OpS.val (op_extract rfl e18_8 rfl) ⟨⟨_, _, _, _, rfl, hcap18_8, hR18_8⟩, Ext.refl _⟩)
    · intro f19 w19 hx19 ho19 hd19
      obtain ⟨q19_8, e19_8, A19_8, c19_8, lo19_8, hi19_8, rfl, hcap19_8, hR19_8⟩ := hd19 8 rfl
      have hlen19_8 := hR19_8.len
      exact D.val rfl (op_extract rfl e19_8 rfl)
    · intro f20 w20 hx20 ho20 hd20
      exact D.call (R := (Sp.slr (closure_f m parent (l.take 250) ((outcomes_f m parent (l.take 250) slot)[i]!) : List Vt)).p) rfl (OpS.val (op_assign rfl rfl) ⟨hd20 9 rfl, Ext.refl _⟩)
    · intro f21 w21 hx21 ho21 hd21
      have d21_10 : f21 42 = (.bool (decided_f m parent (l.take 250) ((outcomes_f m parent (l.take 250) slot)[i]!))) := hd21 10 rfl
      exact D.val rfl (op_assign rfl d21_10)
    intro f22 w22 hx22 ho22 hr22
    have s0 : f22 0 = (.int .i64 m) := (ho22 0 rfl).trans s6_0
    have s2 : f22 2 = (.slice A2 (l.take 250).length c2) := (ho22 2 rfl).trans s6_2
    have s3 : f22 3 = (.slice A3 (mm.take 250).length c3) := (ho22 3 rfl).trans s6_3
    have s6 : f22 6 = (.pointer (some ⟨b1, 0, none⟩)) := (ho22 6 rfl).trans s6_6
    have s11 : f22 11 = (.slice A4 (outcomes_f m parent (l.take 250) slot).length c4) := (ho22 11 rfl).trans s6_11
    have s12 : f22 12 = (.int .i64 ((i : Nat) : Int)) := (ho22 12 rfl).trans s6_12
    have s29 : f22 29 = (.bool (decide (((i : Nat) : Int) < ((outcomes_f m parent (l.take 250) slot).length : Int)))) := ho22 29 rfl
    obtain ⟨A22_11, c22_11, lo22_11, hi22_11, e22_11, hcap22_11, hR22_11⟩ := hr22 11 (by decide)
    have hlen22_11 := hR22_11.len
    have hE := hE.trans hx22
    have hS5 := hS5.trans hx22
    have hR_l := hR_l.ext hx22
    have hR_mm := hR_mm.ext hx22
    have hB1 := hB1.ext hx22
    have hR2 := hR2.ext hx22
    have hR3 := hR3.ext hx22
    have hR4 := hR4.ext hx22
    refine thenF_nor ?_
    refine W.seq ?_
    refine W.drawS [Sp.eq (.int .i64 m), Sp.eq (Enc.val (parent : Nm)), Sp.eq (.slice A22_11 (closure_f m parent (l.take 250) ((outcomes_f m parent (l.take 250) slot)[i]!)).length c22_11), Sp.eq (.slice A4 (outcomes_f m parent (l.take 250) slot).length c4), Sp.eq (.int .i64 ((i : Nat) : Int)), Sp.eq (.pointer (some ((adr A4).add (i * 11)))), Sp.eq (Enc.val ((outcomes_f m parent (l.take 250) slot)[i]!)), Sp.slq (closure_f m parent (closure_f m parent (l.take 250) ((outcomes_f m parent (l.take 250) slot)[i]!)) ((outcomes_f m parent (l.take 250) slot)[i]!) : List Vt) (decided_f m parent (closure_f m parent (l.take 250) ((outcomes_f m parent (l.take 250) slot)[i]!)) ((outcomes_f m parent (l.take 250) slot)[i]!)), Sp.slq (closure_f m parent (closure_f m parent (l.take 250) ((outcomes_f m parent (l.take 250) slot)[i]!)) ((outcomes_f m parent (l.take 250) slot)[i]!) : List Vt) (decided_f m parent (closure_f m parent (l.take 250) ((outcomes_f m parent (l.take 250) slot)[i]!)) ((outcomes_f m parent (l.take 250) slot)[i]!)), Sp.slr (closure_f m parent (closure_f m parent (l.take 250) ((outcomes_f m parent (l.take 250) slot)[i]!)) ((outcomes_f m parent (l.take 250) slot)[i]!) : List Vt), Sp.eq (.bool (decided_f m parent (closure_f m parent (l.take 250) ((outcomes_f m parent (l.take 250) slot)[i]!)) ((outcomes_f m parent (l.take 250) slot)[i]!))), Sp.slr (closure_f m parent (closure_f m parent (l.take 250) ((outcomes_f m parent (l.take 250) slot)[i]!)) ((outcomes_f m parent (l.take 250) slot)[i]!) : List Vt), Sp.eq (.bool (decided_f m parent (closure_f m parent (l.take 250) ((outcomes_f m parent (l.take 250) slot)[i]!)) ((outcomes_f m parent (l.take 250) slot)[i]!)))] mixed (by rfl) (Obls.cons ?_ (Obls.cons ?_ (Obls.cons ?_ (Obls.cons ?_ (Obls.cons ?_ (Obls.cons ?_ (Obls.cons ?_ (Obls.cons ?_ (Obls.cons ?_ (Obls.cons ?_ (Obls.cons ?_ (Obls.cons ?_ (Obls.cons ?_ Obls.nil))))))))))))) ?_
    · intro f24 w24 hx24 ho24 hd24
      have d24_s0 : f24 0 = (.int .i64 m) := (ho24 0 rfl).trans s0
      exact D.val rfl (op_move rfl d24_s0)
    · intro f25 w25 hx25 ho25 hd25
      have d25_s6 : f25 6 = (.pointer (some ⟨b1, 0, none⟩)) := (ho25 6 rfl).trans s6
      have hR_l := hR_l.ext hx25
      have hR_mm := hR_mm.ext hx25
      have hB1 := hB1.ext hx25
      have hR2 := hR2.ext hx25
      have hR3 := hR3.ext hx25
      have hR4 := hR4.ext hx25
      have hR22_11 := hR22_11.ext hx25
      exact D.val rfl (op_load (v := (parent : Nm)) rfl d25_s6 ty24 hB1.cells)
    · intro f26 w26 hx26 ho26 hd26
      have d26_s13 : f26 13 = (.slice A22_11 (closure_f m parent (l.take 250) ((outcomes_f m parent (l.take 250) slot)[i]!)).length c22_11) := (ho26 13 rfl).trans e22_11
      exact D.val rfl (op_move rfl d26_s13)
    · intro f27 w27 hx27 ho27 hd27
      have d27_s11 : f27 11 = (.slice A4 (outcomes_f m parent (l.take 250) slot).length c4) := (ho27 11 rfl).trans s11
      exact D.val rfl (op_move rfl d27_s11)
    · intro f28 w28 hx28 ho28 hd28
      have d28_s12 : f28 12 = (.int .i64 ((i : Nat) : Int)) := (ho28 12 rfl).trans s12
      exact D.val rfl (op_move rfl d28_s12)
    · intro f29 w29 hx29 ho29 hd29
      have d29_3 : f29 47 = (.slice A4 (outcomes_f m parent (l.take 250) slot).length c4) := hd29 3 rfl
      have d29_4 : f29 48 = (.int .i64 ((i : Nat) : Int)) := hd29 4 rfl
      have hR_l := hR_l.ext hx29
      have hR_mm := hR_mm.ext hx29
      have hB1 := hB1.ext hx29
      have hR2 := hR2.ext hx29
      have hR3 := hR3.ext hx29
      have hR4 := hR4.ext hx29
      have hR22_11 := hR22_11.ext hx29
      skip
      exact D.val rfl (op_index (k := i) rfl d29_3 d29_4 sl37 (hR4.getA (get_bang (l := outcomes_f m parent (l.take 250) slot) (k := i) (by omega))).1 rfl (by omega) rfl)
    · intro f30 w30 hx30 ho30 hd30
      have d30_5 : f30 49 = (.pointer (some ((adr A4).add (i * 11)))) := hd30 5 rfl
      have hR_l := hR_l.ext hx30
      have hR_mm := hR_mm.ext hx30
      have hB1 := hB1.ext hx30
      have hR2 := hR2.ext hx30
      have hR3 := hR3.ext hx30
      have hR4 := hR4.ext hx30
      have hR22_11 := hR22_11.ext hx30
      skip
      exact D.val rfl (op_load (v := (outcomes_f m parent (l.take 250) slot)[i]!) rfl d30_5 ty49 (hR4.getA (get_bang (l := outcomes_f m parent (l.take 250) slot) (k := i) (by omega))).2)
    · intro f31 w31 hx31 ho31 hd31
      have d31_0 : f31 44 = (.int .i64 m) := hd31 0 rfl
      have d31_1 : f31 45 = (Enc.val (parent : Nm)) := hd31 1 rfl
      have d31_2 : f31 46 = (.slice A22_11 (closure_f m parent (l.take 250) ((outcomes_f m parent (l.take 250) slot)[i]!)).length c22_11) := hd31 2 rfl
      have d31_6 : f31 50 = (Enc.val ((outcomes_f m parent (l.take 250) slot)[i]!)) := hd31 6 rfl
      have hR_l := hR_l.ext hx31
      have hR_mm := hR_mm.ext hx31
      have hB1 := hB1.ext hx31
      have hR2 := hR2.ext hx31
      have hR3 := hR3.ext hx31
      have hR4 := hR4.ext hx31
      have hR22_11 := hR22_11.ext hx31
      exact D.call (R := (Sp.slq (closure_f m parent (closure_f m parent (l.take 250) ((outcomes_f m parent (l.take 250) slot)[i]!)) ((outcomes_f m parent (l.take 250) slot)[i]!) : List Vt) (decided_f m parent (closure_f m parent (l.take 250) ((outcomes_f m parent (l.take 250) slot)[i]!)) ((outcomes_f m parent (l.take 250) slot)[i]!))).p) rfl (OpS.mono (OpS.call (op_call rfl (argsC d31_0 (argsC d31_1 (argsC d31_2 (argsC d31_6 argsN)))) Try.func47 rfl rfl) (Closure_ok hR22_11 (by first | omega | (simp only [List.length_drop, List.length_take, List.length_append, List.length_cons, List.length_nil] at *; omega)))) fun _ _ ⟨⟨q, h1, h2⟩, h3⟩ => ⟨⟨q, h1, h2⟩, h3⟩)
    · intro f32 w32 hx32 ho32 hd32
      exact D.call (R := (Sp.slq (closure_f m parent (closure_f m parent (l.take 250) ((outcomes_f m parent (l.take 250) slot)[i]!)) ((outcomes_f m parent (l.take 250) slot)[i]!) : List Vt) (decided_f m parent (closure_f m parent (l.take 250) ((outcomes_f m parent (l.take 250) slot)[i]!)) ((outcomes_f m parent (l.take 250) slot)[i]!))).p) rfl (OpS.val (op_move rfl rfl) ⟨hd32 7 rfl, Ext.refl _⟩)
    · intro f33 w33 hx33 ho33 hd33
      obtain ⟨q33_8, e33_8, A33_8, c33_8, lo33_8, hi33_8, rfl, hcap33_8, hR33_8⟩ := hd33 8 rfl
      have hlen33_8 := hR33_8.len
      exact D.call (R := (Sp.slr (closure_f m parent (closure_f m parent (l.take 250) ((outcomes_f m parent (l.take 250) slot)[i]!)) ((outcomes_f m parent (l.take 250) slot)[i]!) : List Vt)).p) rfl (OpS.val (op_extract rfl e33_8 rfl) ⟨⟨_, _, _, _, rfl, hcap33_8, hR33_8⟩, Ext.refl _⟩)
    · intro f34 w34 hx34 ho34 hd34
      obtain ⟨q34_8, e34_8, A34_8, c34_8, lo34_8, hi34_8, rfl, hcap34_8, hR34_8⟩ := hd34 8 rfl
      have hlen34_8 := hR34_8.len
      exact D.val rfl (op_extract rfl e34_8 rfl)
    · intro f35 w35 hx35 ho35 hd35
      exact D.call (R := (Sp.slr (closure_f m parent (closure_f m parent (l.take 250) ((outcomes_f m parent (l.take 250) slot)[i]!)) ((outcomes_f m parent (l.take 250) slot)[i]!) : List Vt)).p) rfl (OpS.val (op_assign rfl rfl) ⟨hd35 9 rfl, Ext.refl _⟩)
    · intro f36 w36 hx36 ho36 hd36
      have d36_10 : f36 53 = (.bool (decided_f m parent (closure_f m parent (l.take 250) ((outcomes_f m parent (l.take 250) slot)[i]!)) ((outcomes_f m parent (l.take 250) slot)[i]!))) := hd36 10 rfl
      exact D.val rfl (op_assign rfl d36_10)
    intro f37 w37 hx37 ho37 hr37
    have s0 : f37 0 = (.int .i64 m) := (ho37 0 rfl).trans s0
    have s2 : f37 2 = (.slice A2 (l.take 250).length c2) := (ho37 2 rfl).trans s2
    have s3 : f37 3 = (.slice A3 (mm.take 250).length c3) := (ho37 3 rfl).trans s3
    have s6 : f37 6 = (.pointer (some ⟨b1, 0, none⟩)) := (ho37 6 rfl).trans s6
    have s11 : f37 11 = (.slice A4 (outcomes_f m parent (l.take 250) slot).length c4) := (ho37 11 rfl).trans s11
    have s12 : f37 12 = (.int .i64 ((i : Nat) : Int)) := (ho37 12 rfl).trans s12
    have s13 : f37 13 = (.slice A22_11 (closure_f m parent (l.take 250) ((outcomes_f m parent (l.take 250) slot)[i]!)).length c22_11) := (ho37 13 rfl).trans e22_11
    have s29 : f37 29 = (.bool (decide (((i : Nat) : Int) < ((outcomes_f m parent (l.take 250) slot).length : Int)))) := (ho37 29 rfl).trans s29
    obtain ⟨A37_11, c37_11, lo37_11, hi37_11, e37_11, hcap37_11, hR37_11⟩ := hr37 11 (by decide)
    have hlen37_11 := hR37_11.len
    have s16 : f37 16 = (.bool (decided_f m parent (closure_f m parent (l.take 250) ((outcomes_f m parent (l.take 250) slot)[i]!)) ((outcomes_f m parent (l.take 250) slot)[i]!))) := hr37 12 (by decide)
    have hE := hE.trans hx37
    have hS5 := hS5.trans hx37
    have hR_l := hR_l.ext hx37
    have hR_mm := hR_mm.ext hx37
    have hB1 := hB1.ext hx37
    have hR2 := hR2.ext hx37
    have hR3 := hR3.ext hx37
    have hR4 := hR4.ext hx37
    have hR22_11 := hR22_11.ext hx37
    refine thenF_nor ?_
    refine W.seq ?_
    refine W.drawY [11, 13, 15, 20, 21, 22] [[], [(11, Sp.own w37.heap.size 28 (([] : List Vt) : List Vt))], [(13, Sp.own w37.heap.size 28 ((([] : List Vt) ++ mm.take 250) : List Vt))], [(15, Sp.own w37.heap.size 28 (((([] : List Vt) ++ mm.take 250) ++ closure_f m parent (l.take 250) ((outcomes_f m parent (l.take 250) slot)[i]!)) : List Vt))], [(20, Sp.eq (.bool (decided_f m parent ((([] : List Vt) ++ mm.take 250) ++ closure_f m parent (l.take 250) ((outcomes_f m parent (l.take 250) slot)[i]!)) ((outcomes_f m parent (l.take 250) slot)[i]!)))), (15, Sp.own w37.heap.size 28 (((([] : List Vt) ++ mm.take 250) ++ closure_f m parent (l.take 250) ((outcomes_f m parent (l.take 250) slot)[i]!)) : List Vt))], [(21, Sp.eq (.bool (!(decided_f m parent ((([] : List Vt) ++ mm.take 250) ++ closure_f m parent (l.take 250) ((outcomes_f m parent (l.take 250) slot)[i]!)) ((outcomes_f m parent (l.take 250) slot)[i]!))))), (20, Sp.eq (.bool (decided_f m parent ((([] : List Vt) ++ mm.take 250) ++ closure_f m parent (l.take 250) ((outcomes_f m parent (l.take 250) slot)[i]!)) ((outcomes_f m parent (l.take 250) slot)[i]!)))), (15, Sp.own w37.heap.size 28 (((([] : List Vt) ++ mm.take 250) ++ closure_f m parent (l.take 250) ((outcomes_f m parent (l.take 250) slot)[i]!)) : List Vt))], [(22, Sp.eq (.bool (!(decided_f m parent ((([] : List Vt) ++ mm.take 250) ++ closure_f m parent (l.take 250) ((outcomes_f m parent (l.take 250) slot)[i]!)) ((outcomes_f m parent (l.take 250) slot)[i]!))))), (21, Sp.eq (.bool (!(decided_f m parent ((([] : List Vt) ++ mm.take 250) ++ closure_f m parent (l.take 250) ((outcomes_f m parent (l.take 250) slot)[i]!)) ((outcomes_f m parent (l.take 250) slot)[i]!))))), (20, Sp.eq (.bool (decided_f m parent ((([] : List Vt) ++ mm.take 250) ++ closure_f m parent (l.take 250) ((outcomes_f m parent (l.take 250) slot)[i]!)) ((outcomes_f m parent (l.take 250) slot)[i]!)))), (15, Sp.own w37.heap.size 28 (((([] : List Vt) ++ mm.take 250) ++ closure_f m parent (l.take 250) ((outcomes_f m parent (l.take 250) slot)[i]!)) : List Vt))]] [(.bool (decided_f m parent (closure_f m parent (l.take 250) ((outcomes_f m parent (l.take 250) slot)[i]!)) ((outcomes_f m parent (l.take 250) slot)[i]!))), (.bool (!(decided_f m parent (closure_f m parent (l.take 250) ((outcomes_f m parent (l.take 250) slot)[i]!)) ((outcomes_f m parent (l.take 250) slot)[i]!)))), (.bool (!(decided_f m parent (closure_f m parent (l.take 250) ((outcomes_f m parent (l.take 250) slot)[i]!)) ((outcomes_f m parent (l.take 250) slot)[i]!)))), (vif (!(!(decided_f m parent (closure_f m parent (l.take 250) ((outcomes_f m parent (l.take 250) slot)[i]!)) ((outcomes_f m parent (l.take 250) slot)[i]!)))) (.slice A22_11 (closure_f m parent (l.take 250) ((outcomes_f m parent (l.take 250) slot)[i]!)).length c22_11)), (vif (!(!(decided_f m parent (closure_f m parent (l.take 250) ((outcomes_f m parent (l.take 250) slot)[i]!)) ((outcomes_f m parent (l.take 250) slot)[i]!)))) (.slice A37_11 (closure_f m parent (closure_f m parent (l.take 250) ((outcomes_f m parent (l.take 250) slot)[i]!)) ((outcomes_f m parent (l.take 250) slot)[i]!)).length c37_11)), (vif (!(!(decided_f m parent (closure_f m parent (l.take 250) ((outcomes_f m parent (l.take 250) slot)[i]!)) ((outcomes_f m parent (l.take 250) slot)[i]!)))) (.bool (decide (closure_f m parent (l.take 250) ((outcomes_f m parent (l.take 250) slot)[i]!) = closure_f m parent (closure_f m parent (l.take 250) ((outcomes_f m parent (l.take 250) slot)[i]!)) ((outcomes_f m parent (l.take 250) slot)[i]!))))), (vif (!(!(decided_f m parent (closure_f m parent (l.take 250) ((outcomes_f m parent (l.take 250) slot)[i]!)) ((outcomes_f m parent (l.take 250) slot)[i]!)))) (.bool (!(decide (closure_f m parent (l.take 250) ((outcomes_f m parent (l.take 250) slot)[i]!) = closure_f m parent (closure_f m parent (l.take 250) ((outcomes_f m parent (l.take 250) slot)[i]!)) ((outcomes_f m parent (l.take 250) slot)[i]!)))))), (.bool ((!(decided_f m parent (closure_f m parent (l.take 250) ((outcomes_f m parent (l.take 250) slot)[i]!)) ((outcomes_f m parent (l.take 250) slot)[i]!))) || (!(decide (closure_f m parent (l.take 250) ((outcomes_f m parent (l.take 250) slot)[i]!) = closure_f m parent (closure_f m parent (l.take 250) ((outcomes_f m parent (l.take 250) slot)[i]!)) ((outcomes_f m parent (l.take 250) slot)[i]!)))))), (.bool ((!(decided_f m parent (closure_f m parent (l.take 250) ((outcomes_f m parent (l.take 250) slot)[i]!)) ((outcomes_f m parent (l.take 250) slot)[i]!))) || (!(decide (closure_f m parent (l.take 250) ((outcomes_f m parent (l.take 250) slot)[i]!) = closure_f m parent (closure_f m parent (l.take 250) ((outcomes_f m parent (l.take 250) slot)[i]!)) ((outcomes_f m parent (l.take 250) slot)[i]!)))))), (vif (!((!(decided_f m parent (closure_f m parent (l.take 250) ((outcomes_f m parent (l.take 250) slot)[i]!)) ((outcomes_f m parent (l.take 250) slot)[i]!))) || (!(decide (closure_f m parent (l.take 250) ((outcomes_f m parent (l.take 250) slot)[i]!) = closure_f m parent (closure_f m parent (l.take 250) ((outcomes_f m parent (l.take 250) slot)[i]!)) ((outcomes_f m parent (l.take 250) slot)[i]!)))))) (.int .i64 m)), (vif (!((!(decided_f m parent (closure_f m parent (l.take 250) ((outcomes_f m parent (l.take 250) slot)[i]!)) ((outcomes_f m parent (l.take 250) slot)[i]!))) || (!(decide (closure_f m parent (l.take 250) ((outcomes_f m parent (l.take 250) slot)[i]!) = closure_f m parent (closure_f m parent (l.take 250) ((outcomes_f m parent (l.take 250) slot)[i]!)) ((outcomes_f m parent (l.take 250) slot)[i]!)))))) (Enc.val (parent : Nm))), undef, (vif (!((!(decided_f m parent (closure_f m parent (l.take 250) ((outcomes_f m parent (l.take 250) slot)[i]!)) ((outcomes_f m parent (l.take 250) slot)[i]!))) || (!(decide (closure_f m parent (l.take 250) ((outcomes_f m parent (l.take 250) slot)[i]!) = closure_f m parent (closure_f m parent (l.take 250) ((outcomes_f m parent (l.take 250) slot)[i]!)) ((outcomes_f m parent (l.take 250) slot)[i]!)))))) (.slice A3 (mm.take 250).length c3)), undef, (vif (!((!(decided_f m parent (closure_f m parent (l.take 250) ((outcomes_f m parent (l.take 250) slot)[i]!)) ((outcomes_f m parent (l.take 250) slot)[i]!))) || (!(decide (closure_f m parent (l.take 250) ((outcomes_f m parent (l.take 250) slot)[i]!) = closure_f m parent (closure_f m parent (l.take 250) ((outcomes_f m parent (l.take 250) slot)[i]!)) ((outcomes_f m parent (l.take 250) slot)[i]!)))))) (.slice A22_11 (closure_f m parent (l.take 250) ((outcomes_f m parent (l.take 250) slot)[i]!)).length c22_11)), undef, (vif (!((!(decided_f m parent (closure_f m parent (l.take 250) ((outcomes_f m parent (l.take 250) slot)[i]!)) ((outcomes_f m parent (l.take 250) slot)[i]!))) || (!(decide (closure_f m parent (l.take 250) ((outcomes_f m parent (l.take 250) slot)[i]!) = closure_f m parent (closure_f m parent (l.take 250) ((outcomes_f m parent (l.take 250) slot)[i]!)) ((outcomes_f m parent (l.take 250) slot)[i]!)))))) (.slice A4 (outcomes_f m parent (l.take 250) slot).length c4)), (vif (!((!(decided_f m parent (closure_f m parent (l.take 250) ((outcomes_f m parent (l.take 250) slot)[i]!)) ((outcomes_f m parent (l.take 250) slot)[i]!))) || (!(decide (closure_f m parent (l.take 250) ((outcomes_f m parent (l.take 250) slot)[i]!) = closure_f m parent (closure_f m parent (l.take 250) ((outcomes_f m parent (l.take 250) slot)[i]!)) ((outcomes_f m parent (l.take 250) slot)[i]!)))))) (.int .i64 ((i : Nat) : Int))), (vif (!((!(decided_f m parent (closure_f m parent (l.take 250) ((outcomes_f m parent (l.take 250) slot)[i]!)) ((outcomes_f m parent (l.take 250) slot)[i]!))) || (!(decide (closure_f m parent (l.take 250) ((outcomes_f m parent (l.take 250) slot)[i]!) = closure_f m parent (closure_f m parent (l.take 250) ((outcomes_f m parent (l.take 250) slot)[i]!)) ((outcomes_f m parent (l.take 250) slot)[i]!)))))) (.pointer (some ((adr A4).add (i * 11))))), (vif (!((!(decided_f m parent (closure_f m parent (l.take 250) ((outcomes_f m parent (l.take 250) slot)[i]!)) ((outcomes_f m parent (l.take 250) slot)[i]!))) || (!(decide (closure_f m parent (l.take 250) ((outcomes_f m parent (l.take 250) slot)[i]!) = closure_f m parent (closure_f m parent (l.take 250) ((outcomes_f m parent (l.take 250) slot)[i]!)) ((outcomes_f m parent (l.take 250) slot)[i]!)))))) (Enc.val ((outcomes_f m parent (l.take 250) slot)[i]!))), undef, undef, undef] mixed (by rfl) rfl ?_ ?_ ?_
    · refine VObls.cons ?_ (VObls.cons ?_ (VObls.cons ?_ (VObls.cons ?_ (VObls.cons ?_ (VObls.cons ?_ (VObls.cons ?_ (VObls.cons ?_ (VObls.cons ?_ (VObls.cons ?_ (VObls.cons ?_ (VObls.cons (fun h => nomatch h) (VObls.cons ?_ (VObls.cons (fun h => nomatch h) (VObls.cons ?_ (VObls.cons (fun h => nomatch h) (VObls.cons ?_ (VObls.cons ?_ (VObls.cons ?_ (VObls.cons ?_ (VObls.cons (fun h => nomatch h) (VObls.cons (fun h => nomatch h) (VObls.cons (fun h => nomatch h) (VObls.nil)))))))))))))))))))))))
      · intro _ f38 w38 hx38 ho38 hd38
        have d38_s16 : f38 16 = (.bool (decided_f m parent (closure_f m parent (l.take 250) ((outcomes_f m parent (l.take 250) slot)[i]!)) ((outcomes_f m parent (l.take 250) slot)[i]!))) := (ho38 16 rfl).trans s16
        exact ⟨D.val rfl (op_move rfl d38_s16), rfl⟩
      · intro _ f39 w39 hx39 ho39 hd39
        have d39_0 : f39 54 = (.bool (decided_f m parent (closure_f m parent (l.take 250) ((outcomes_f m parent (l.take 250) slot)[i]!)) ((outcomes_f m parent (l.take 250) slot)[i]!))) := hd39 0 rfl rfl
        exact ⟨D.val rfl (op_not rfl d39_0), rfl⟩
      · intro _ f40 w40 hx40 ho40 hd40
        have d40_1 : f40 55 = (.bool (!(decided_f m parent (closure_f m parent (l.take 250) ((outcomes_f m parent (l.take 250) slot)[i]!)) ((outcomes_f m parent (l.take 250) slot)[i]!)))) := hd40 1 rfl rfl
        exact ⟨D.val rfl (op_move rfl d40_1), rfl⟩
      · intro _ f41 w41 hx41 ho41 hd41
        have d41_s13 : f41 13 = (.slice A22_11 (closure_f m parent (l.take 250) ((outcomes_f m parent (l.take 250) slot)[i]!)).length c22_11) := (ho41 13 rfl).trans s13
        have d41_2 : f41 56 = (.bool (!(decided_f m parent (closure_f m parent (l.take 250) ((outcomes_f m parent (l.take 250) slot)[i]!)) ((outcomes_f m parent (l.take 250) slot)[i]!)))) := hd41 2 rfl rfl
        exact ⟨D.guardv (wanted_no rfl rfl d41_2) (fun hg => (op_move rfl d41_s13)), rfl⟩
      · intro _ f42 w42 hx42 ho42 hd42
        have d42_s15 : f42 15 = (.slice A37_11 (closure_f m parent (closure_f m parent (l.take 250) ((outcomes_f m parent (l.take 250) slot)[i]!)) ((outcomes_f m parent (l.take 250) slot)[i]!)).length c37_11) := (ho42 15 rfl).trans e37_11
        have d42_2 : f42 56 = (.bool (!(decided_f m parent (closure_f m parent (l.take 250) ((outcomes_f m parent (l.take 250) slot)[i]!)) ((outcomes_f m parent (l.take 250) slot)[i]!)))) := hd42 2 rfl rfl
        exact ⟨D.guardv (wanted_no rfl rfl d42_2) (fun hg => (op_move rfl d42_s15)), rfl⟩
      · intro _ f43 w43 hx43 ho43 hd43
        have d43_2 : f43 56 = (.bool (!(decided_f m parent (closure_f m parent (l.take 250) ((outcomes_f m parent (l.take 250) slot)[i]!)) ((outcomes_f m parent (l.take 250) slot)[i]!)))) := hd43 2 rfl rfl
        have d43_3 : f43 57 = (vif (!(!(decided_f m parent (closure_f m parent (l.take 250) ((outcomes_f m parent (l.take 250) slot)[i]!)) ((outcomes_f m parent (l.take 250) slot)[i]!)))) (.slice A22_11 (closure_f m parent (l.take 250) ((outcomes_f m parent (l.take 250) slot)[i]!)).length c22_11)) := hd43 3 rfl rfl
        have d43_4 : f43 58 = (vif (!(!(decided_f m parent (closure_f m parent (l.take 250) ((outcomes_f m parent (l.take 250) slot)[i]!)) ((outcomes_f m parent (l.take 250) slot)[i]!)))) (.slice A37_11 (closure_f m parent (closure_f m parent (l.take 250) ((outcomes_f m parent (l.take 250) slot)[i]!)) ((outcomes_f m parent (l.take 250) slot)[i]!)).length c37_11)) := hd43 4 rfl rfl
        have hR_l := hR_l.ext hx43
        have hR_mm := hR_mm.ext hx43
        have hB1 := hB1.ext hx43
        have hR2 := hR2.ext hx43
        have hR3 := hR3.ext hx43
        have hR4 := hR4.ext hx43
        have hR22_11 := hR22_11.ext hx43
        have hR37_11 := hR37_11.ext hx43
        exact ⟨D.guardc (wanted_no rfl rfl d43_2) (fun hg => by have hp := hg; (try simp only [Bool.and_eq_true, Bool.or_eq_true, Bool.not_eq_true', decide_eq_true_eq, decide_eq_false_iff_not, bne_iff_ne, beq_iff_eq] at hp); exact (OpS.call (op_call rfl (argsC ((show _ = vif _ (.slice A22_11 (closure_f m parent (l.take 250) ((outcomes_f m parent (l.take 250) slot)[i]!)).length c22_11) from d43_3).trans (vif_t hg).symm) (argsC ((show _ = vif _ (.slice A37_11 (closure_f m parent (closure_f m parent (l.take 250) ((outcomes_f m parent (l.take 250) slot)[i]!)) ((outcomes_f m parent (l.take 250) slot)[i]!)).length c37_11) from d43_4).trans (vif_t hg).symm) argsN)) Try.func49 rfl rfl) (same13_ok hR22_11 hR37_11))), rfl⟩
      · intro _ f44 w44 hx44 ho44 hd44
        have d44_2 : f44 56 = (.bool (!(decided_f m parent (closure_f m parent (l.take 250) ((outcomes_f m parent (l.take 250) slot)[i]!)) ((outcomes_f m parent (l.take 250) slot)[i]!)))) := hd44 2 rfl rfl
        have d44_5 : f44 59 = (vif (!(!(decided_f m parent (closure_f m parent (l.take 250) ((outcomes_f m parent (l.take 250) slot)[i]!)) ((outcomes_f m parent (l.take 250) slot)[i]!)))) (.bool (decide (closure_f m parent (l.take 250) ((outcomes_f m parent (l.take 250) slot)[i]!) = closure_f m parent (closure_f m parent (l.take 250) ((outcomes_f m parent (l.take 250) slot)[i]!)) ((outcomes_f m parent (l.take 250) slot)[i]!))))) := hd44 5 rfl rfl
        exact ⟨D.guardv (wanted_no rfl rfl d44_2) (fun hg => (op_not rfl ((show _ = vif _ (.bool (decide (closure_f m parent (l.take 250) ((outcomes_f m parent (l.take 250) slot)[i]!) = closure_f m parent (closure_f m parent (l.take 250) ((outcomes_f m parent (l.take 250) slot)[i]!)) ((outcomes_f m parent (l.take 250) slot)[i]!)))) from d44_5).trans (vif_t hg).symm))), rfl⟩
      · intro _ f45 w45 hx45 ho45 hd45
        have d45_2 : f45 56 = (.bool (!(decided_f m parent (closure_f m parent (l.take 250) ((outcomes_f m parent (l.take 250) slot)[i]!)) ((outcomes_f m parent (l.take 250) slot)[i]!)))) := hd45 2 rfl rfl
        have d45_6 : f45 60 = (vif (!(!(decided_f m parent (closure_f m parent (l.take 250) ((outcomes_f m parent (l.take 250) slot)[i]!)) ((outcomes_f m parent (l.take 250) slot)[i]!)))) (.bool (!(decide (closure_f m parent (l.take 250) ((outcomes_f m parent (l.take 250) slot)[i]!) = closure_f m parent (closure_f m parent (l.take 250) ((outcomes_f m parent (l.take 250) slot)[i]!)) ((outcomes_f m parent (l.take 250) slot)[i]!)))))) := hd45 6 rfl rfl
        exact ⟨D.val rfl (op_or rfl d45_2 rfl d45_6), rfl⟩
      · intro _ f46 w46 hx46 ho46 hd46
        have d46_7 : f46 61 = (.bool ((!(decided_f m parent (closure_f m parent (l.take 250) ((outcomes_f m parent (l.take 250) slot)[i]!)) ((outcomes_f m parent (l.take 250) slot)[i]!))) || (!(decide (closure_f m parent (l.take 250) ((outcomes_f m parent (l.take 250) slot)[i]!) = closure_f m parent (closure_f m parent (l.take 250) ((outcomes_f m parent (l.take 250) slot)[i]!)) ((outcomes_f m parent (l.take 250) slot)[i]!)))))) := hd46 7 rfl rfl
        exact ⟨D.val rfl (op_move rfl d46_7), rfl⟩
      · intro _ f47 w47 hx47 ho47 hd47
        have d47_s0 : f47 0 = (.int .i64 m) := (ho47 0 rfl).trans s0
        have d47_8 : f47 62 = (.bool ((!(decided_f m parent (closure_f m parent (l.take 250) ((outcomes_f m parent (l.take 250) slot)[i]!)) ((outcomes_f m parent (l.take 250) slot)[i]!))) || (!(decide (closure_f m parent (l.take 250) ((outcomes_f m parent (l.take 250) slot)[i]!) = closure_f m parent (closure_f m parent (l.take 250) ((outcomes_f m parent (l.take 250) slot)[i]!)) ((outcomes_f m parent (l.take 250) slot)[i]!)))))) := hd47 8 rfl rfl
        exact ⟨D.guardv (wanted_no rfl rfl d47_8) (fun hg => (op_move rfl d47_s0)), rfl⟩
      · intro _ f48 w48 hx48 ho48 hd48
        have d48_s6 : f48 6 = (.pointer (some ⟨b1, 0, none⟩)) := (ho48 6 rfl).trans s6
        have d48_8 : f48 62 = (.bool ((!(decided_f m parent (closure_f m parent (l.take 250) ((outcomes_f m parent (l.take 250) slot)[i]!)) ((outcomes_f m parent (l.take 250) slot)[i]!))) || (!(decide (closure_f m parent (l.take 250) ((outcomes_f m parent (l.take 250) slot)[i]!) = closure_f m parent (closure_f m parent (l.take 250) ((outcomes_f m parent (l.take 250) slot)[i]!)) ((outcomes_f m parent (l.take 250) slot)[i]!)))))) := hd48 8 rfl rfl
        have hR_l := hR_l.ext hx48
        have hR_mm := hR_mm.ext hx48
        have hB1 := hB1.ext hx48
        have hR2 := hR2.ext hx48
        have hR3 := hR3.ext hx48
        have hR4 := hR4.ext hx48
        have hR22_11 := hR22_11.ext hx48
        have hR37_11 := hR37_11.ext hx48
        exact ⟨D.guardv (wanted_no rfl rfl d48_8) (fun hg => (op_load (v := (parent : Nm)) rfl d48_s6 ty24 hB1.cells)), rfl⟩
      · intro _ f50 w50 hx50 ho50 hd50
        have d50_s3 : f50 3 = (.slice A3 (mm.take 250).length c3) := (ho50 3 rfl).trans s3
        have d50_8 : f50 62 = (.bool ((!(decided_f m parent (closure_f m parent (l.take 250) ((outcomes_f m parent (l.take 250) slot)[i]!)) ((outcomes_f m parent (l.take 250) slot)[i]!))) || (!(decide (closure_f m parent (l.take 250) ((outcomes_f m parent (l.take 250) slot)[i]!) = closure_f m parent (closure_f m parent (l.take 250) ((outcomes_f m parent (l.take 250) slot)[i]!)) ((outcomes_f m parent (l.take 250) slot)[i]!)))))) := hd50 8 rfl rfl
        exact ⟨D.guardv (wanted_no rfl rfl d50_8) (fun hg => (op_move rfl d50_s3)), rfl⟩
      · intro _ f52 w52 hx52 ho52 hd52
        have d52_s13 : f52 13 = (.slice A22_11 (closure_f m parent (l.take 250) ((outcomes_f m parent (l.take 250) slot)[i]!)).length c22_11) := (ho52 13 rfl).trans s13
        have d52_8 : f52 62 = (.bool ((!(decided_f m parent (closure_f m parent (l.take 250) ((outcomes_f m parent (l.take 250) slot)[i]!)) ((outcomes_f m parent (l.take 250) slot)[i]!))) || (!(decide (closure_f m parent (l.take 250) ((outcomes_f m parent (l.take 250) slot)[i]!) = closure_f m parent (closure_f m parent (l.take 250) ((outcomes_f m parent (l.take 250) slot)[i]!)) ((outcomes_f m parent (l.take 250) slot)[i]!)))))) := hd52 8 rfl rfl
        exact ⟨D.guardv (wanted_no rfl rfl d52_8) (fun hg => (op_move rfl d52_s13)), rfl⟩
      · intro _ f54 w54 hx54 ho54 hd54
        have d54_s11 : f54 11 = (.slice A4 (outcomes_f m parent (l.take 250) slot).length c4) := (ho54 11 rfl).trans s11
        have d54_8 : f54 62 = (.bool ((!(decided_f m parent (closure_f m parent (l.take 250) ((outcomes_f m parent (l.take 250) slot)[i]!)) ((outcomes_f m parent (l.take 250) slot)[i]!))) || (!(decide (closure_f m parent (l.take 250) ((outcomes_f m parent (l.take 250) slot)[i]!) = closure_f m parent (closure_f m parent (l.take 250) ((outcomes_f m parent (l.take 250) slot)[i]!)) ((outcomes_f m parent (l.take 250) slot)[i]!)))))) := hd54 8 rfl rfl
        exact ⟨D.guardv (wanted_no rfl rfl d54_8) (fun hg => (op_move rfl d54_s11)), rfl⟩
      · intro _ f55 w55 hx55 ho55 hd55
        have d55_s12 : f55 12 = (.int .i64 ((i : Nat) : Int)) := (ho55 12 rfl).trans s12
        have d55_8 : f55 62 = (.bool ((!(decided_f m parent (closure_f m parent (l.take 250) ((outcomes_f m parent (l.take 250) slot)[i]!)) ((outcomes_f m parent (l.take 250) slot)[i]!))) || (!(decide (closure_f m parent (l.take 250) ((outcomes_f m parent (l.take 250) slot)[i]!) = closure_f m parent (closure_f m parent (l.take 250) ((outcomes_f m parent (l.take 250) slot)[i]!)) ((outcomes_f m parent (l.take 250) slot)[i]!)))))) := hd55 8 rfl rfl
        exact ⟨D.guardv (wanted_no rfl rfl d55_8) (fun hg => (op_move rfl d55_s12)), rfl⟩
      · intro _ f56 w56 hx56 ho56 hd56
        have d56_8 : f56 62 = (.bool ((!(decided_f m parent (closure_f m parent (l.take 250) ((outcomes_f m parent (l.take 250) slot)[i]!)) ((outcomes_f m parent (l.take 250) slot)[i]!))) || (!(decide (closure_f m parent (l.take 250) ((outcomes_f m parent (l.take 250) slot)[i]!) = closure_f m parent (closure_f m parent (l.take 250) ((outcomes_f m parent (l.take 250) slot)[i]!)) ((outcomes_f m parent (l.take 250) slot)[i]!)))))) := hd56 8 rfl rfl
        have d56_16 : f56 70 = (vif (!((!(decided_f m parent (closure_f m parent (l.take 250) ((outcomes_f m parent (l.take 250) slot)[i]!)) ((outcomes_f m parent (l.take 250) slot)[i]!))) || (!(decide (closure_f m parent (l.take 250) ((outcomes_f m parent (l.take 250) slot)[i]!) = closure_f m parent (closure_f m parent (l.take 250) ((outcomes_f m parent (l.take 250) slot)[i]!)) ((outcomes_f m parent (l.take 250) slot)[i]!)))))) (.slice A4 (outcomes_f m parent (l.take 250) slot).length c4)) := hd56 16 rfl rfl
        have d56_17 : f56 71 = (vif (!((!(decided_f m parent (closure_f m parent (l.take 250) ((outcomes_f m parent (l.take 250) slot)[i]!)) ((outcomes_f m parent (l.take 250) slot)[i]!))) || (!(decide (closure_f m parent (l.take 250) ((outcomes_f m parent (l.take 250) slot)[i]!) = closure_f m parent (closure_f m parent (l.take 250) ((outcomes_f m parent (l.take 250) slot)[i]!)) ((outcomes_f m parent (l.take 250) slot)[i]!)))))) (.int .i64 ((i : Nat) : Int))) := hd56 17 rfl rfl
        have hR_l := hR_l.ext hx56
        have hR_mm := hR_mm.ext hx56
        have hB1 := hB1.ext hx56
        have hR2 := hR2.ext hx56
        have hR3 := hR3.ext hx56
        have hR4 := hR4.ext hx56
        have hR22_11 := hR22_11.ext hx56
        have hR37_11 := hR37_11.ext hx56
        exact ⟨D.guardv (wanted_no rfl rfl d56_8) (fun hg => by have hp := hg; (try simp only [Bool.and_eq_true, Bool.or_eq_true, Bool.not_eq_true', decide_eq_true_eq, decide_eq_false_iff_not, bne_iff_ne, beq_iff_eq] at hp); exact (op_index (k := i) rfl ((show _ = vif _ (.slice A4 (outcomes_f m parent (l.take 250) slot).length c4) from d56_16).trans (vif_t hg).symm) ((show _ = vif _ (.int .i64 ((i : Nat) : Int)) from d56_17).trans (vif_t hg).symm) sl37 (hR4.getA (get_bang (l := outcomes_f m parent (l.take 250) slot) (k := i) (by omega))).1 rfl (by omega) rfl)), rfl⟩
      · intro _ f57 w57 hx57 ho57 hd57
        have d57_8 : f57 62 = (.bool ((!(decided_f m parent (closure_f m parent (l.take 250) ((outcomes_f m parent (l.take 250) slot)[i]!)) ((outcomes_f m parent (l.take 250) slot)[i]!))) || (!(decide (closure_f m parent (l.take 250) ((outcomes_f m parent (l.take 250) slot)[i]!) = closure_f m parent (closure_f m parent (l.take 250) ((outcomes_f m parent (l.take 250) slot)[i]!)) ((outcomes_f m parent (l.take 250) slot)[i]!)))))) := hd57 8 rfl rfl
        have d57_18 : f57 72 = (vif (!((!(decided_f m parent (closure_f m parent (l.take 250) ((outcomes_f m parent (l.take 250) slot)[i]!)) ((outcomes_f m parent (l.take 250) slot)[i]!))) || (!(decide (closure_f m parent (l.take 250) ((outcomes_f m parent (l.take 250) slot)[i]!) = closure_f m parent (closure_f m parent (l.take 250) ((outcomes_f m parent (l.take 250) slot)[i]!)) ((outcomes_f m parent (l.take 250) slot)[i]!)))))) (.pointer (some ((adr A4).add (i * 11))))) := hd57 18 rfl rfl
        have hR_l := hR_l.ext hx57
        have hR_mm := hR_mm.ext hx57
        have hB1 := hB1.ext hx57
        have hR2 := hR2.ext hx57
        have hR3 := hR3.ext hx57
        have hR4 := hR4.ext hx57
        have hR22_11 := hR22_11.ext hx57
        have hR37_11 := hR37_11.ext hx57
        exact ⟨D.guardv (wanted_no rfl rfl d57_8) (fun hg => by have hp := hg; (try simp only [Bool.and_eq_true, Bool.or_eq_true, Bool.not_eq_true', decide_eq_true_eq, decide_eq_false_iff_not, bne_iff_ne, beq_iff_eq] at hp); exact (op_load (v := (outcomes_f m parent (l.take 250) slot)[i]!) rfl ((show _ = vif _ (.pointer (some ((adr A4).add (i * 11)))) from d57_18).trans (vif_t hg).symm) ty49 (hR4.getA (get_bang (l := outcomes_f m parent (l.take 250) slot) (k := i) (by omega))).2)), rfl⟩
    · refine CObls.cons ?_ (CObls.cons ?_ (CObls.cons ?_ (CObls.cons ?_ (CObls.cons ?_ (CObls.cons ?_ (CObls.nil))))))
      · intro o ho
        obtain rfl := Option.some.inj (ho : some _ = some o)
        intro f49 w49 hx49 ho49 hd49 hs49
        have d49_8 : f49 62 = (.bool ((!(decided_f m parent (closure_f m parent (l.take 250) ((outcomes_f m parent (l.take 250) slot)[i]!)) ((outcomes_f m parent (l.take 250) slot)[i]!))) || (!(decide (closure_f m parent (l.take 250) ((outcomes_f m parent (l.take 250) slot)[i]!) = closure_f m parent (closure_f m parent (l.take 250) ((outcomes_f m parent (l.take 250) slot)[i]!)) ((outcomes_f m parent (l.take 250) slot)[i]!)))))) := hd49 8 rfl rfl
        have hg : (!((!(decided_f m parent (closure_f m parent (l.take 250) ((outcomes_f m parent (l.take 250) slot)[i]!)) ((outcomes_f m parent (l.take 250) slot)[i]!))) || (!(decide (closure_f m parent (l.take 250) ((outcomes_f m parent (l.take 250) slot)[i]!) = closure_f m parent (closure_f m parent (l.take 250) ((outcomes_f m parent (l.take 250) slot)[i]!)) ((outcomes_f m parent (l.take 250) slot)[i]!)))))) = true := by rw [(sheds1 m parent (l.take 250) slot i (by omega))]; rfl
        exact chain_extT (sp := Sp.own w37.heap.size 28 ([] : List Vt)) hx49 (show stageOk _ _ _ from hs49) ((wanted_no rfl rfl d49_8).trans hg) (op_slice0 Vt w37.heap.size hx49.size rfl sl25) rfl
      · intro o ho
        obtain rfl := Option.some.inj (ho : some _ = some o)
        intro f51 w51 hx51 ho51 hd51 hs51
        obtain ⟨c51_11, _⟩ := hs51
        have d51_8 : f51 62 = (.bool ((!(decided_f m parent (closure_f m parent (l.take 250) ((outcomes_f m parent (l.take 250) slot)[i]!)) ((outcomes_f m parent (l.take 250) slot)[i]!))) || (!(decide (closure_f m parent (l.take 250) ((outcomes_f m parent (l.take 250) slot)[i]!) = closure_f m parent (closure_f m parent (l.take 250) ((outcomes_f m parent (l.take 250) slot)[i]!)) ((outcomes_f m parent (l.take 250) slot)[i]!)))))) := hd51 8 rfl rfl
        have q51_11 : Fk.Own w51 w37.heap.size 28 (f51 65) ([] : List Vt) := c51_11
        have d51_12 : f51 66 = (vif (!((!(decided_f m parent (closure_f m parent (l.take 250) ((outcomes_f m parent (l.take 250) slot)[i]!)) ((outcomes_f m parent (l.take 250) slot)[i]!))) || (!(decide (closure_f m parent (l.take 250) ((outcomes_f m parent (l.take 250) slot)[i]!) = closure_f m parent (closure_f m parent (l.take 250) ((outcomes_f m parent (l.take 250) slot)[i]!)) ((outcomes_f m parent (l.take 250) slot)[i]!)))))) (.slice A3 (mm.take 250).length c3)) := hd51 12 rfl rfl
        have hg : (!((!(decided_f m parent (closure_f m parent (l.take 250) ((outcomes_f m parent (l.take 250) slot)[i]!)) ((outcomes_f m parent (l.take 250) slot)[i]!))) || (!(decide (closure_f m parent (l.take 250) ((outcomes_f m parent (l.take 250) slot)[i]!) = closure_f m parent (closure_f m parent (l.take 250) ((outcomes_f m parent (l.take 250) slot)[i]!)) ((outcomes_f m parent (l.take 250) slot)[i]!)))))) = true := by rw [(sheds1 m parent (l.take 250) slot i (by omega))]; rfl
        have hR_l := hR_l.ext hx51
        have hR_mm := hR_mm.ext hx51
        have hB1 := hB1.ext hx51
        have hR2 := hR2.ext hx51
        have hR3 := hR3.ext hx51
        have hR4 := hR4.ext hx51
        have hR22_11 := hR22_11.ext hx51
        have hR37_11 := hR37_11.ext hx51
        exact chain_appT (l2 := ((([] : List Vt) ++ mm.take 250) : List Vt)) hx51 ((wanted_no rfl rfl d51_8).trans hg) q51_11 (op_appendN (l2 := mm.take 250) rfl rfl ((show _ = vif _ (.slice A3 (mm.take 250).length c3) from d51_12).trans (vif_t hg).symm) sl25 zs28 bt28 q51_11 hR3 (by simp only [List.length_append, List.length_take, List.length_cons, List.length_nil] at *; omega) (by decide) hx51.size)
      · intro o ho
        obtain rfl := Option.some.inj (ho : some _ = some o)
        intro f53 w53 hx53 ho53 hd53 hs53
        obtain ⟨c53_13, _⟩ := hs53
        have d53_8 : f53 62 = (.bool ((!(decided_f m parent (closure_f m parent (l.take 250) ((outcomes_f m parent (l.take 250) slot)[i]!)) ((outcomes_f m parent (l.take 250) slot)[i]!))) || (!(decide (closure_f m parent (l.take 250) ((outcomes_f m parent (l.take 250) slot)[i]!) = closure_f m parent (closure_f m parent (l.take 250) ((outcomes_f m parent (l.take 250) slot)[i]!)) ((outcomes_f m parent (l.take 250) slot)[i]!)))))) := hd53 8 rfl rfl
        have q53_13 : Fk.Own w53 w37.heap.size 28 (f53 67) (([] : List Vt) ++ mm.take 250) := c53_13
        have d53_14 : f53 68 = (vif (!((!(decided_f m parent (closure_f m parent (l.take 250) ((outcomes_f m parent (l.take 250) slot)[i]!)) ((outcomes_f m parent (l.take 250) slot)[i]!))) || (!(decide (closure_f m parent (l.take 250) ((outcomes_f m parent (l.take 250) slot)[i]!) = closure_f m parent (closure_f m parent (l.take 250) ((outcomes_f m parent (l.take 250) slot)[i]!)) ((outcomes_f m parent (l.take 250) slot)[i]!)))))) (.slice A22_11 (closure_f m parent (l.take 250) ((outcomes_f m parent (l.take 250) slot)[i]!)).length c22_11)) := hd53 14 rfl rfl
        have hg : (!((!(decided_f m parent (closure_f m parent (l.take 250) ((outcomes_f m parent (l.take 250) slot)[i]!)) ((outcomes_f m parent (l.take 250) slot)[i]!))) || (!(decide (closure_f m parent (l.take 250) ((outcomes_f m parent (l.take 250) slot)[i]!) = closure_f m parent (closure_f m parent (l.take 250) ((outcomes_f m parent (l.take 250) slot)[i]!)) ((outcomes_f m parent (l.take 250) slot)[i]!)))))) = true := by rw [(sheds1 m parent (l.take 250) slot i (by omega))]; rfl
        have hR_l := hR_l.ext hx53
        have hR_mm := hR_mm.ext hx53
        have hB1 := hB1.ext hx53
        have hR2 := hR2.ext hx53
        have hR3 := hR3.ext hx53
        have hR4 := hR4.ext hx53
        have hR22_11 := hR22_11.ext hx53
        have hR37_11 := hR37_11.ext hx53
        exact chain_appT (l2 := (((([] : List Vt) ++ mm.take 250) ++ closure_f m parent (l.take 250) ((outcomes_f m parent (l.take 250) slot)[i]!)) : List Vt)) hx53 ((wanted_no rfl rfl d53_8).trans hg) q53_13 (op_appendN (l2 := closure_f m parent (l.take 250) ((outcomes_f m parent (l.take 250) slot)[i]!)) rfl rfl ((show _ = vif _ (.slice A22_11 (closure_f m parent (l.take 250) ((outcomes_f m parent (l.take 250) slot)[i]!)).length c22_11) from d53_14).trans (vif_t hg).symm) sl25 zs28 bt28 q53_13 hR22_11 (by simp only [List.length_append, List.length_take, List.length_cons, List.length_nil] at *; omega) (by decide) hx53.size)
      · intro o ho
        obtain rfl := Option.some.inj (ho : some _ = some o)
        intro f58 w58 hx58 ho58 hd58 hs58
        obtain ⟨c58_15, _⟩ := hs58
        have d58_8 : f58 62 = (.bool ((!(decided_f m parent (closure_f m parent (l.take 250) ((outcomes_f m parent (l.take 250) slot)[i]!)) ((outcomes_f m parent (l.take 250) slot)[i]!))) || (!(decide (closure_f m parent (l.take 250) ((outcomes_f m parent (l.take 250) slot)[i]!) = closure_f m parent (closure_f m parent (l.take 250) ((outcomes_f m parent (l.take 250) slot)[i]!)) ((outcomes_f m parent (l.take 250) slot)[i]!)))))) := hd58 8 rfl rfl
        have d58_9 : f58 63 = (vif (!((!(decided_f m parent (closure_f m parent (l.take 250) ((outcomes_f m parent (l.take 250) slot)[i]!)) ((outcomes_f m parent (l.take 250) slot)[i]!))) || (!(decide (closure_f m parent (l.take 250) ((outcomes_f m parent (l.take 250) slot)[i]!) = closure_f m parent (closure_f m parent (l.take 250) ((outcomes_f m parent (l.take 250) slot)[i]!)) ((outcomes_f m parent (l.take 250) slot)[i]!)))))) (.int .i64 m)) := hd58 9 rfl rfl
        have d58_10 : f58 64 = (vif (!((!(decided_f m parent (closure_f m parent (l.take 250) ((outcomes_f m parent (l.take 250) slot)[i]!)) ((outcomes_f m parent (l.take 250) slot)[i]!))) || (!(decide (closure_f m parent (l.take 250) ((outcomes_f m parent (l.take 250) slot)[i]!) = closure_f m parent (closure_f m parent (l.take 250) ((outcomes_f m parent (l.take 250) slot)[i]!)) ((outcomes_f m parent (l.take 250) slot)[i]!)))))) (Enc.val (parent : Nm))) := hd58 10 rfl rfl
        have q58_15 : Fk.Own w58 w37.heap.size 28 (f58 69) ((([] : List Vt) ++ mm.take 250) ++ closure_f m parent (l.take 250) ((outcomes_f m parent (l.take 250) slot)[i]!)) := c58_15
        obtain ⟨A58_15, k58_15, e58_15, hR58_15, hcap58_15⟩ := (id q58_15).form
        have hlen58_15 := hR58_15.len
        have d58_19 : f58 73 = (vif (!((!(decided_f m parent (closure_f m parent (l.take 250) ((outcomes_f m parent (l.take 250) slot)[i]!)) ((outcomes_f m parent (l.take 250) slot)[i]!))) || (!(decide (closure_f m parent (l.take 250) ((outcomes_f m parent (l.take 250) slot)[i]!) = closure_f m parent (closure_f m parent (l.take 250) ((outcomes_f m parent (l.take 250) slot)[i]!)) ((outcomes_f m parent (l.take 250) slot)[i]!)))))) (Enc.val ((outcomes_f m parent (l.take 250) slot)[i]!))) := hd58 19 rfl rfl
        have hg : (!((!(decided_f m parent (closure_f m parent (l.take 250) ((outcomes_f m parent (l.take 250) slot)[i]!)) ((outcomes_f m parent (l.take 250) slot)[i]!))) || (!(decide (closure_f m parent (l.take 250) ((outcomes_f m parent (l.take 250) slot)[i]!) = closure_f m parent (closure_f m parent (l.take 250) ((outcomes_f m parent (l.take 250) slot)[i]!)) ((outcomes_f m parent (l.take 250) slot)[i]!)))))) = true := by rw [(sheds1 m parent (l.take 250) slot i (by omega))]; rfl
        have hR_l := hR_l.ext hx58
        have hR_mm := hR_mm.ext hx58
        have hB1 := hB1.ext hx58
        have hR2 := hR2.ext hx58
        have hR3 := hR3.ext hx58
        have hR4 := hR4.ext hx58
        have hR22_11 := hR22_11.ext hx58
        have hR37_11 := hR37_11.ext hx58
        exact chain_extT (sp := Sp.eq (.bool (decided_f m parent ((([] : List Vt) ++ mm.take 250) ++ closure_f m parent (l.take 250) ((outcomes_f m parent (l.take 250) slot)[i]!)) ((outcomes_f m parent (l.take 250) slot)[i]!)))) hx58 (show stageOk _ _ _ from ⟨c58_15, trivial⟩) ((wanted_no rfl rfl d58_8).trans hg) (OpS.call (op_call rfl (argsC ((show _ = vif _ (.int .i64 m) from d58_9).trans (vif_t hg).symm) (argsC ((show _ = vif _ (Enc.val (parent : Nm)) from d58_10).trans (vif_t hg).symm) (argsC e58_15 (argsC ((show _ = vif _ (Enc.val ((outcomes_f m parent (l.take 250) slot)[i]!)) from d58_19).trans (vif_t hg).symm) argsN)))) Try.func48 rfl rfl) (Check_ok hR58_15 (by first | omega | (simp only [List.length_drop, List.length_take, List.length_append, List.length_cons, List.length_nil] at *; omega)))) rfl
      · intro o ho
        obtain rfl := Option.some.inj (ho : some _ = some o)
        intro f59 w59 hx59 ho59 hd59 hs59
        obtain ⟨c59_20, c59_15, _⟩ := hs59
        have d59_8 : f59 62 = (.bool ((!(decided_f m parent (closure_f m parent (l.take 250) ((outcomes_f m parent (l.take 250) slot)[i]!)) ((outcomes_f m parent (l.take 250) slot)[i]!))) || (!(decide (closure_f m parent (l.take 250) ((outcomes_f m parent (l.take 250) slot)[i]!) = closure_f m parent (closure_f m parent (l.take 250) ((outcomes_f m parent (l.take 250) slot)[i]!)) ((outcomes_f m parent (l.take 250) slot)[i]!)))))) := hd59 8 rfl rfl
        have d59_20 : f59 74 = (.bool (decided_f m parent ((([] : List Vt) ++ mm.take 250) ++ closure_f m parent (l.take 250) ((outcomes_f m parent (l.take 250) slot)[i]!)) ((outcomes_f m parent (l.take 250) slot)[i]!))) := c59_20
        have hg : (!((!(decided_f m parent (closure_f m parent (l.take 250) ((outcomes_f m parent (l.take 250) slot)[i]!)) ((outcomes_f m parent (l.take 250) slot)[i]!))) || (!(decide (closure_f m parent (l.take 250) ((outcomes_f m parent (l.take 250) slot)[i]!) = closure_f m parent (closure_f m parent (l.take 250) ((outcomes_f m parent (l.take 250) slot)[i]!)) ((outcomes_f m parent (l.take 250) slot)[i]!)))))) = true := by rw [(sheds1 m parent (l.take 250) slot i (by omega))]; rfl
        exact chain_extT (sp := Sp.eq (.bool (!(decided_f m parent ((([] : List Vt) ++ mm.take 250) ++ closure_f m parent (l.take 250) ((outcomes_f m parent (l.take 250) slot)[i]!)) ((outcomes_f m parent (l.take 250) slot)[i]!))))) hx59 (show stageOk _ _ _ from ⟨c59_20, c59_15, trivial⟩) ((wanted_no rfl rfl d59_8).trans hg) (OpS.val (op_not rfl d59_20) ⟨rfl, Ext.refl _⟩) rfl
      · intro o ho
        obtain rfl := Option.some.inj (ho : some _ = some o)
        intro f60 w60 hx60 ho60 hd60 hs60
        obtain ⟨c60_21, c60_20, c60_15, _⟩ := hs60
        have d60_8 : f60 62 = (.bool ((!(decided_f m parent (closure_f m parent (l.take 250) ((outcomes_f m parent (l.take 250) slot)[i]!)) ((outcomes_f m parent (l.take 250) slot)[i]!))) || (!(decide (closure_f m parent (l.take 250) ((outcomes_f m parent (l.take 250) slot)[i]!) = closure_f m parent (closure_f m parent (l.take 250) ((outcomes_f m parent (l.take 250) slot)[i]!)) ((outcomes_f m parent (l.take 250) slot)[i]!)))))) := hd60 8 rfl rfl
        have d60_21 : f60 75 = (.bool (!(decided_f m parent ((([] : List Vt) ++ mm.take 250) ++ closure_f m parent (l.take 250) ((outcomes_f m parent (l.take 250) slot)[i]!)) ((outcomes_f m parent (l.take 250) slot)[i]!)))) := c60_21
        exact chain_val (v := (.bool (!(decided_f m parent ((([] : List Vt) ++ mm.take 250) ++ closure_f m parent (l.take 250) ((outcomes_f m parent (l.take 250) slot)[i]!)) ((outcomes_f m parent (l.take 250) slot)[i]!))))) hx60 (show stageOk _ _ _ from ⟨c60_21, c60_20, c60_15, trivial⟩) rfl (op_pickF rfl ((show _ = Value.bool ((!(decided_f m parent (closure_f m parent (l.take 250) ((outcomes_f m parent (l.take 250) slot)[i]!)) ((outcomes_f m parent (l.take 250) slot)[i]!))) || (!(decide (closure_f m parent (l.take 250) ((outcomes_f m parent (l.take 250) slot)[i]!) = closure_f m parent (closure_f m parent (l.take 250) ((outcomes_f m parent (l.take 250) slot)[i]!)) ((outcomes_f m parent (l.take 250) slot)[i]!))))) from d60_8).trans (congrArg Value.bool ((sheds1 m parent (l.take 250) slot i (by omega))))) d60_21) rfl
    intro f61 w61 hx61 ho61 hr61 hs61
    obtain ⟨c61_22, c61_21, c61_20, c61_15, _⟩ := hs61
    have s0 : f61 0 = (.int .i64 m) := (ho61 0 rfl).trans s0
    have s2 : f61 2 = (.slice A2 (l.take 250).length c2) := (ho61 2 rfl).trans s2
    have s3 : f61 3 = (.slice A3 (mm.take 250).length c3) := (ho61 3 rfl).trans s3
    have s6 : f61 6 = (.pointer (some ⟨b1, 0, none⟩)) := (ho61 6 rfl).trans s6
    have s11 : f61 11 = (.slice A4 (outcomes_f m parent (l.take 250) slot).length c4) := (ho61 11 rfl).trans s11
    have s12 : f61 12 = (.int .i64 ((i : Nat) : Int)) := (ho61 12 rfl).trans s12
    have s13 : f61 13 = (.slice A22_11 (closure_f m parent (l.take 250) ((outcomes_f m parent (l.take 250) slot)[i]!)).length c22_11) := (ho61 13 rfl).trans s13
    have s15 : f61 15 = (.slice A37_11 (closure_f m parent (closure_f m parent (l.take 250) ((outcomes_f m parent (l.take 250) slot)[i]!)) ((outcomes_f m parent (l.take 250) slot)[i]!)).length c37_11) := (ho61 15 rfl).trans e37_11
    have s16 : f61 16 = (.bool (decided_f m parent (closure_f m parent (l.take 250) ((outcomes_f m parent (l.take 250) slot)[i]!)) ((outcomes_f m parent (l.take 250) slot)[i]!))) := (ho61 16 rfl).trans s16
    have s29 : f61 29 = (.bool (decide (((i : Nat) : Int) < ((outcomes_f m parent (l.take 250) slot).length : Int)))) := (ho61 29 rfl).trans s29
    have hE := hE.trans hx61
    have hS5 := hS5.trans hx61
    have hR_l := hR_l.ext hx61
    have hR_mm := hR_mm.ext hx61
    have hB1 := hB1.ext hx61
    have hR2 := hR2.ext hx61
    have hR3 := hR3.ext hx61
    have hR4 := hR4.ext hx61
    have hR22_11 := hR22_11.ext hx61
    have hR37_11 := hR37_11.ext hx61
    have s76 : f61 76 = (.bool (!(decided_f m parent ((([] : List Vt) ++ mm.take 250) ++ closure_f m parent (l.take 250) ((outcomes_f m parent (l.take 250) slot)[i]!)) ((outcomes_f m parent (l.take 250) slot)[i]!)))) := c61_22
    refine thenF_nor ?_
    refine W.cond (t := !(decided_f m parent ((([] : List Vt) ++ mm.take 250) ++ closure_f m parent (l.take 250) ((outcomes_f m parent (l.take 250) slot)[i]!)) ((outcomes_f m parent (l.take 250) slot)[i]!))) s76 (fun hc62 => ?_) (fun hc62 => ?_)
    · have hp62 := hc62
      simp only [Bool.and_eq_true, Bool.or_eq_true, Bool.and_eq_false_iff, Bool.or_eq_false_iff, Bool.not_eq_true', Bool.not_eq_false', decide_eq_true_eq, decide_eq_false_iff_not] at hp62
      exact absurd hc62 (by rw [sheds2 m parent (l.take 250) (mm.take 250) slot i (by omega)]; simp)
    · have hp62 := hc62
      simp only [Bool.and_eq_true, Bool.or_eq_true, Bool.and_eq_false_iff, Bool.or_eq_false_iff, Bool.not_eq_true', Bool.not_eq_false', decide_eq_true_eq, decide_eq_false_iff_not] at hp62
      refine W.skip ?_
      refine blockF_nor ?_
      refine thenF_nor ?_
      refine W.region (by rfl) ?_
      refine L.val rfl (op_move rfl s12) ?_
      refine L.val rfl (op_add (c := ((i + 1 : Nat) : Int)) rfl rfl rfl (by omega) (by omega)) ?_
      refine L.val rfl (op_assign rfl rfl) ?_
      refine L.nil ?_
      refine thenF_nor ?_
      exact ⟨i + 1, ⟨(by (try dsimp only); omega), s0, s2, s3, s6, s11, rfl, hS5⟩, (by (try dsimp only); omega)⟩
  · have hp7 := hc7
    simp only [Bool.and_eq_true, Bool.or_eq_true, Bool.and_eq_false_iff, Bool.or_eq_false_iff, Bool.not_eq_true', Bool.not_eq_false', decide_eq_true_eq, decide_eq_false_iff_not] at hp7
    refine W.exit ?_
    refine thenF_exit ?_
    refine thenF_exit ?_
    refine blockF_hit ?_
    refine thenF_nor ?_
    refine W.seq ?_
    refine W.region (by rfl) ?_
    refine L.call (v := (.bool true)) rfl (OpS.call (op_call rfl argsN Try.func51 rfl rfl) awake13_ok) ?_
    intro w63 hx63
    have hE := hE.trans hx63
    have hS5 := hS5.trans hx63
    have hR_l := hR_l.ext hx63
    have hR_mm := hR_mm.ext hx63
    have hB1 := hB1.ext hx63
    have hR2 := hR2.ext hx63
    have hR3 := hR3.ext hx63
    have hR4 := hR4.ext hx63
    refine L.val (v := (.bool true)) rfl (op_assign rfl rfl) ?_
    refine L.nil ?_
    refine thenF_nor ?_
    refine W.ret ?_
    exact end_ret1 (v := (.bool true)) rfl rfl ⟨rfl, hE⟩

end Go.Proofs.Ytdknjfmjddlphaa
