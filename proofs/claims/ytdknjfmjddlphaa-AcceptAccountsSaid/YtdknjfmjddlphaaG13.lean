/-
  Contracts of functions of the program, each with its walk in the logic of frames. Printed by a program of this session (wip/gen) from the translation.
-/
import Derived.Test.YtdknjfmjddlphaaG10
set_option linter.unusedSimpArgs false
set_option linter.unusedVariables false
namespace Go.Proofs.Ytdknjfmjddlphaa
open Go Go.Fk

set_option maxRecDepth 100000 in
set_option maxHeartbeats 8000000 in
theorem AcceptAccounts_ok {m : Int} {parent : Nm} {A_l : Option Addr} {c_l lo_l hi_l : Nat} {l : List Vt} {A_mm : Option Addr} {c_mm lo_mm hi_mm : Nat} {mm : List Vt} {slot : Int}  {w : World} (hR_l : Rd w lo_l hi_l A_l l) (hcap_l : l.length ≤ c_l) (hR_mm : Rd w lo_mm hi_mm A_mm mm) (hcap_mm : mm.length ≤ c_mm) : Gives Try.prog 9 #[(.int .i64 m), (Enc.val (parent : Nm)), (.slice A_l l.length c_l), (.slice A_mm mm.length c_mm), (.int .i64 slot)] w fun u w' => u = (.bool true) ∧ Ext w w' := by
  have hE : Ext w w := Ext.refl w
  have hlen_l := hR_l.len
  have hlen_mm := hR_mm.len
  refine gives_of_W Try.func9 rfl Try.ntmps9 rfl ?_
  have htl : (l.take 250).length ≤ 250 := List.length_take_le _ _
  have htm : (mm.take 250).length ≤ 250 := List.length_take_le _ _
  have hsz0 := size_nn m
  have hsz1 := size_le m
  have hq0 := quorum_bounds m
  refine W.seq ?_
  refine W.region (by rfl) ?_
  refine L.step rfl (op_box (cs := (Enc.cells (parent : Nm))) rfl rfl rfl) ?_
  rintro _ w1 ⟨b1, rfl, hb1, hB1, hx1⟩
  have hE := hE.trans hx1
  have hR_l := hR_l.ext hx1
  have hR_mm := hR_mm.ext hx1
  refine L.val (v := (.bool false)) rfl (op_assign rfl rfl) ?_
  refine L.nil ?_
  refine thenF_nor ?_
  refine W.seq ?_
  refine W.region (by rfl) ?_
  refine L.val rfl (op_move rfl rfl) ?_
  refine L.step rfl (OpS.call (op_call rfl (argsC rfl argsN) Try.func24 rfl rfl) (cut12_ok hR_l hcap_l)) ?_
  rintro _ w2 ⟨⟨A2, c2, lo2, hi2, rfl, hcap2, hR2⟩, hx2⟩
  have hE := hE.trans hx2
  have hR_l := hR_l.ext hx2
  have hR_mm := hR_mm.ext hx2
  have hB1 := hB1.ext hx2
  have hlen2 := hR2.len
  refine L.val rfl (op_move rfl rfl) ?_
  refine L.step rfl (OpS.call (op_call rfl (argsC rfl argsN) Try.func24 rfl rfl) (cut12_ok hR_mm hcap_mm)) ?_
  rintro _ w3 ⟨⟨A3, c3, lo3, hi3, rfl, hcap3, hR3⟩, hx3⟩
  have hE := hE.trans hx3
  have hR_l := hR_l.ext hx3
  have hR_mm := hR_mm.ext hx3
  have hB1 := hB1.ext hx3
  have hR2 := hR2.ext hx3
  have hlen3 := hR3.len
  refine L.val rfl (op_assign rfl rfl) ?_
  refine L.val rfl (op_assign rfl rfl) ?_
  refine L.nil ?_
  refine thenF_nor ?_
  refine W.seq ?_
  refine W.drawS [Sp.eq (.int .i64 m), Sp.eq (Enc.val (parent : Nm)), Sp.eq (.slice A2 (l.take 250).length c2), Sp.eq (.int .i64 slot), Sp.slr (outcomes_f m parent (l.take 250) slot : List Oc), Sp.eq (.int .i64 m), Sp.eq (Enc.val (parent : Nm)), Sp.eq (.slice A3 (mm.take 250).length c3), Sp.eq (.int .i64 slot), Sp.slr (outcomes_f m parent (mm.take 250) slot : List Oc), Sp.slr (outcomes_f m parent (l.take 250) slot : List Oc), Sp.slr (outcomes_f m parent (mm.take 250) slot : List Oc)] mixed (by rfl) (Obls.cons ?_ (Obls.cons ?_ (Obls.cons ?_ (Obls.cons ?_ (Obls.cons ?_ (Obls.cons ?_ (Obls.cons ?_ (Obls.cons ?_ (Obls.cons ?_ (Obls.cons ?_ (Obls.cons ?_ (Obls.cons ?_ Obls.nil)))))))))))) ?_
  · intro f5 w5 hx5 ho5 hd5
    have d5_s0 : f5 0 = (.int .i64 m) := ho5 0 rfl
    exact D.val rfl (op_move rfl d5_s0)
  · intro f6 w6 hx6 ho6 hd6
    have d6_s6 : f6 6 = (.pointer (some ⟨b1, 0, none⟩)) := ho6 6 rfl
    have hR_l := hR_l.ext hx6
    have hR_mm := hR_mm.ext hx6
    have hB1 := hB1.ext hx6
    have hR2 := hR2.ext hx6
    have hR3 := hR3.ext hx6
    exact D.val rfl (op_load (v := (parent : Nm)) rfl d6_s6 ty24 hB1.cells)
  · intro f7 w7 hx7 ho7 hd7
    have d7_s2 : f7 2 = (.slice A2 (l.take 250).length c2) := ho7 2 rfl
    exact D.val rfl (op_move rfl d7_s2)
  · intro f8 w8 hx8 ho8 hd8
    have d8_s4 : f8 4 = (.int .i64 slot) := ho8 4 rfl
    exact D.val rfl (op_move rfl d8_s4)
  · intro f9 w9 hx9 ho9 hd9
    have d9_0 : f9 22 = (.int .i64 m) := hd9 0 rfl
    have d9_1 : f9 23 = (Enc.val (parent : Nm)) := hd9 1 rfl
    have d9_2 : f9 24 = (.slice A2 (l.take 250).length c2) := hd9 2 rfl
    have d9_3 : f9 25 = (.int .i64 slot) := hd9 3 rfl
    have hR_l := hR_l.ext hx9
    have hR_mm := hR_mm.ext hx9
    have hB1 := hB1.ext hx9
    have hR2 := hR2.ext hx9
    have hR3 := hR3.ext hx9
    exact D.call (R := (Sp.slr (outcomes_f m parent (l.take 250) slot : List Oc)).p) rfl (OpS.call (op_call rfl (argsC d9_0 (argsC d9_1 (argsC d9_2 (argsC d9_3 argsN)))) Try.func26 rfl rfl) (Outcomes_ok hR2 (by first | omega | (simp only [List.length_drop, List.length_take, List.length_append, List.length_cons, List.length_nil] at *; omega))))
  · intro f10 w10 hx10 ho10 hd10
    have d10_s0 : f10 0 = (.int .i64 m) := ho10 0 rfl
    exact D.val rfl (op_move rfl d10_s0)
  · intro f11 w11 hx11 ho11 hd11
    have d11_s6 : f11 6 = (.pointer (some ⟨b1, 0, none⟩)) := ho11 6 rfl
    have hR_l := hR_l.ext hx11
    have hR_mm := hR_mm.ext hx11
    have hB1 := hB1.ext hx11
    have hR2 := hR2.ext hx11
    have hR3 := hR3.ext hx11
    exact D.val rfl (op_load (v := (parent : Nm)) rfl d11_s6 ty24 hB1.cells)
  · intro f12 w12 hx12 ho12 hd12
    have d12_s3 : f12 3 = (.slice A3 (mm.take 250).length c3) := ho12 3 rfl
    exact D.val rfl (op_move rfl d12_s3)
  · intro f13 w13 hx13 ho13 hd13
    have d13_s4 : f13 4 = (.int .i64 slot) := ho13 4 rfl
    exact D.val rfl (op_move rfl d13_s4)
  · intro f14 w14 hx14 ho14 hd14
    have d14_5 : f14 27 = (.int .i64 m) := hd14 5 rfl
    have d14_6 : f14 28 = (Enc.val (parent : Nm)) := hd14 6 rfl
    have d14_7 : f14 29 = (.slice A3 (mm.take 250).length c3) := hd14 7 rfl
    have d14_8 : f14 30 = (.int .i64 slot) := hd14 8 rfl
    have hR_l := hR_l.ext hx14
    have hR_mm := hR_mm.ext hx14
    have hB1 := hB1.ext hx14
    have hR2 := hR2.ext hx14
    have hR3 := hR3.ext hx14
    exact D.call (R := (Sp.slr (outcomes_f m parent (mm.take 250) slot : List Oc)).p) rfl (OpS.call (op_call rfl (argsC d14_5 (argsC d14_6 (argsC d14_7 (argsC d14_8 argsN)))) Try.func26 rfl rfl) (Outcomes_ok hR3 (by first | omega | (simp only [List.length_drop, List.length_take, List.length_append, List.length_cons, List.length_nil] at *; omega))))
  · intro f15 w15 hx15 ho15 hd15
    exact D.call (R := (Sp.slr (outcomes_f m parent (l.take 250) slot : List Oc)).p) rfl (OpS.val (op_assign rfl rfl) ⟨hd15 4 rfl, Ext.refl _⟩)
  · intro f16 w16 hx16 ho16 hd16
    exact D.call (R := (Sp.slr (outcomes_f m parent (mm.take 250) slot : List Oc)).p) rfl (OpS.val (op_assign rfl rfl) ⟨hd16 9 rfl, Ext.refl _⟩)
  intro f17 w17 hx17 ho17 hr17
  have s0 : f17 0 = (.int .i64 m) := ho17 0 rfl
  have s1 : f17 1 = (Enc.val (parent : Nm)) := ho17 1 rfl
  have s2 : f17 2 = (.slice A2 (l.take 250).length c2) := ho17 2 rfl
  have s3 : f17 3 = (.slice A3 (mm.take 250).length c3) := ho17 3 rfl
  have s4 : f17 4 = (.int .i64 slot) := ho17 4 rfl
  have s6 : f17 6 = (.pointer (some ⟨b1, 0, none⟩)) := ho17 6 rfl
  have s10 : f17 10 = (.bool false) := ho17 10 rfl
  obtain ⟨A17_10, c17_10, lo17_10, hi17_10, e17_10, hcap17_10, hR17_10⟩ := hr17 10 (by decide)
  have hlen17_10 := hR17_10.len
  obtain ⟨A17_11, c17_11, lo17_11, hi17_11, e17_11, hcap17_11, hR17_11⟩ := hr17 11 (by decide)
  have hlen17_11 := hR17_11.len
  have hE := hE.trans hx17
  have hR_l := hR_l.ext hx17
  have hR_mm := hR_mm.ext hx17
  have hB1 := hB1.ext hx17
  have hR2 := hR2.ext hx17
  have hR3 := hR3.ext hx17
  refine thenF_nor ?_
  refine W.seq ?_
  refine W.region (by rfl) ?_
  refine L.val (v := (.bool false)) rfl (op_assign rfl rfl) ?_
  refine L.nil ?_
  refine thenF_nor ?_
  refine W.seq ?_
  refine W.seq ?_
  refine W.region (by rfl) ?_
  refine L.val rfl (op_assign rfl rfl) ?_
  refine L.nil ?_
  refine thenF_nor ?_
  refine W.block ?_
  have S18_hR_l := hR_l
  have S18_hR_mm := hR_mm
  have S18_hB1 := hB1
  have S18_hR2 := hR2
  have S18_hR3 := hR3
  have S18_hR17_10 := hR17_10
  have S18_hR17_11 := hR17_11
  have S18_hE := hE
  have hS18 : Ext w17 w17 := Ext.refl _
  refine W.loopg (γ := Nat × Bool) (fun (g : Nat × Bool) (f : Fr) (ww : World) => g.1 ≤ (outcomes_f m parent (l.take 250) slot).length ∧ ((outcomes_f m parent (l.take 250) slot).take g.1).any (fun x => (outcomes_f m parent (mm.take 250) slot).any (unl x)) = g.2 ∧ f 0 = (.int .i64 m) ∧ f 2 = (.slice A2 (l.take 250).length c2) ∧ f 3 = (.slice A3 (mm.take 250).length c3) ∧ f 6 = (.pointer (some ⟨b1, 0, none⟩)) ∧ f 10 = (.bool false) ∧ f 11 = (.slice A17_10 (outcomes_f m parent (l.take 250) slot).length c17_10) ∧ f 12 = (.slice A17_11 (outcomes_f m parent (mm.take 250) slot).length c17_11) ∧ f 14 = (.int .i64 ((g.1 : Nat) : Int)) ∧ f 13 = (.bool g.2) ∧ Ext w17 ww) (fun (g : Nat × Bool) => (outcomes_f m parent (l.take 250) slot).length - g.1) (0, false) ⟨(by (try dsimp only); omega), rfl, s0, s2, s3, s6, s10, e17_10, e17_11, rfl, rfl, hS18⟩ ?_
  rintro ⟨i, u⟩ f19 w19 ⟨hi, hu, s19_0, s19_2, s19_3, s19_6, s19_10, s19_11, s19_12, s19_14, s19_13, hS18⟩
  dsimp only at hi hu s19_0 s19_2 s19_3 s19_6 s19_10 s19_11 s19_12 s19_14 s19_13 hS18
  have hR_l := S18_hR_l.ext hS18
  have hR_mm := S18_hR_mm.ext hS18
  have hB1 := S18_hB1.ext hS18
  have hR2 := S18_hR2.ext hS18
  have hR3 := S18_hR3.ext hS18
  have hR17_10 := S18_hR17_10.ext hS18
  have hR17_11 := S18_hR17_11.ext hS18
  have hE := S18_hE.trans hS18
  refine W.seq ?_
  refine W.seq ?_
  refine W.region (by rfl) ?_
  refine L.val rfl (op_move rfl s19_14) ?_
  refine L.val rfl (op_move rfl s19_11) ?_
  refine L.val rfl (op_len rfl rfl ln37) ?_
  refine L.val rfl (op_lss rfl rfl rfl) ?_
  refine L.nil ?_
  refine thenF_nor ?_
  refine W.cond (t := decide (((i : Nat) : Int) < ((outcomes_f m parent (l.take 250) slot).length : Int))) rfl (fun hc20 => ?_) (fun hc20 => ?_)
  · have hp20 := hc20
    simp only [Bool.and_eq_true, Bool.or_eq_true, Bool.and_eq_false_iff, Bool.or_eq_false_iff, Bool.not_eq_true', Bool.not_eq_false', decide_eq_true_eq, decide_eq_false_iff_not] at hp20
    refine W.skip ?_
    refine thenF_nor ?_
    refine W.seq ?_
    refine W.block ?_
    refine W.seq ?_
    refine W.region (by rfl) ?_
    refine L.val rfl (op_assign rfl rfl) ?_
    refine L.nil ?_
    refine thenF_nor ?_
    refine W.block ?_
    have S21_hR_l := hR_l
    have S21_hR_mm := hR_mm
    have S21_hB1 := hB1
    have S21_hR2 := hR2
    have S21_hR3 := hR3
    have S21_hR17_10 := hR17_10
    have S21_hR17_11 := hR17_11
    have S21_hE := hE
    have S21_hS18 := hS18
    have hS21 : Ext w19 w19 := Ext.refl _
    refine W.loopg (γ := Nat × Bool) (fun (g : Nat × Bool) (f : Fr) (ww : World) => g.1 ≤ (outcomes_f m parent (mm.take 250) slot).length ∧ (u || ((outcomes_f m parent (mm.take 250) slot).take g.1).any (unl (outcomes_f m parent (l.take 250) slot)[i]!)) = g.2 ∧ f 0 = (.int .i64 m) ∧ f 2 = (.slice A2 (l.take 250).length c2) ∧ f 3 = (.slice A3 (mm.take 250).length c3) ∧ f 6 = (.pointer (some ⟨b1, 0, none⟩)) ∧ f 10 = (.bool false) ∧ f 11 = (.slice A17_10 (outcomes_f m parent (l.take 250) slot).length c17_10) ∧ f 12 = (.slice A17_11 (outcomes_f m parent (mm.take 250) slot).length c17_11) ∧ f 14 = (.int .i64 ((i : Nat) : Int)) ∧ f 35 = (.bool (decide (((i : Nat) : Int) < ((outcomes_f m parent (l.take 250) slot).length : Int)))) ∧ f 15 = (.int .i64 ((g.1 : Nat) : Int)) ∧ f 13 = (.bool g.2) ∧ Ext w19 ww) (fun (g : Nat × Bool) => (outcomes_f m parent (mm.take 250) slot).length - g.1) (0, u) ⟨(by (try dsimp only); omega), (by simp), s19_0, s19_2, s19_3, s19_6, s19_10, s19_11, s19_12, s19_14, rfl, rfl, s19_13, hS21⟩ ?_
    rintro ⟨k, u2⟩ f22 w22 ⟨hk, hu2, s22_0, s22_2, s22_3, s22_6, s22_10, s22_11, s22_12, s22_14, s22_35, s22_15, s22_13, hS21⟩
    dsimp only at hk hu2 s22_0 s22_2 s22_3 s22_6 s22_10 s22_11 s22_12 s22_14 s22_35 s22_15 s22_13 hS21
    have hR_l := S21_hR_l.ext hS21
    have hR_mm := S21_hR_mm.ext hS21
    have hB1 := S21_hB1.ext hS21
    have hR2 := S21_hR2.ext hS21
    have hR3 := S21_hR3.ext hS21
    have hR17_10 := S21_hR17_10.ext hS21
    have hR17_11 := S21_hR17_11.ext hS21
    have hE := S21_hE.trans hS21
    have hS18 := S21_hS18.trans hS21
    refine W.seq ?_
    refine W.seq ?_
    refine W.region (by rfl) ?_
    refine L.val rfl (op_move rfl s22_15) ?_
    refine L.val rfl (op_move rfl s22_12) ?_
    refine L.val rfl (op_len rfl rfl ln37) ?_
    refine L.val rfl (op_lss rfl rfl rfl) ?_
    refine L.nil ?_
    refine thenF_nor ?_
    refine W.cond (t := decide (((k : Nat) : Int) < ((outcomes_f m parent (mm.take 250) slot).length : Int))) rfl (fun hc23 => ?_) (fun hc23 => ?_)
    · have hp23 := hc23
      simp only [Bool.and_eq_true, Bool.or_eq_true, Bool.and_eq_false_iff, Bool.or_eq_false_iff, Bool.not_eq_true', Bool.not_eq_false', decide_eq_true_eq, decide_eq_false_iff_not] at hp23
      refine W.skip ?_
      refine thenF_nor ?_
      refine W.seq ?_
      refine W.block ?_
      refine W.drawL [Sp.eq (.bool u2), Sp.eq (.bool u2), Sp.eq (vif (!u2) (.slice A17_10 (outcomes_f m parent (l.take 250) slot).length c17_10)), Sp.eq (vif (!u2) (.int .i64 ((i : Nat) : Int))), Sp.eq (vif (!u2) (.pointer (some ((adr A17_10).add (i * 11))))), Sp.eq (vif (!u2) (.pointer (some (((adr A17_10).add (i * 11)).add 2)))), Sp.eq (vif (!u2) (.int .i64 (((outcomes_f m parent (l.take 250) slot)[i]!).choice))), Sp.eq (vif (!u2) (.slice A17_11 (outcomes_f m parent (mm.take 250) slot).length c17_11)), Sp.eq (vif (!u2) (.int .i64 ((k : Nat) : Int))), Sp.eq (vif (!u2) (.pointer (some ((adr A17_11).add (k * 11))))), Sp.eq (vif (!u2) (.pointer (some (((adr A17_11).add (k * 11)).add 2)))), Sp.eq (vif (!u2) (.int .i64 (((outcomes_f m parent (mm.take 250) slot)[k]!).choice))), Sp.eq (vif (!u2) (.bool (!decide ((((outcomes_f m parent (l.take 250) slot)[i]!).choice) = (((outcomes_f m parent (mm.take 250) slot)[k]!).choice))))), Sp.eq (.bool (u2 || (!decide ((((outcomes_f m parent (l.take 250) slot)[i]!).choice) = (((outcomes_f m parent (mm.take 250) slot)[k]!).choice))))), Sp.eq (.bool (u2 || (!decide ((((outcomes_f m parent (l.take 250) slot)[i]!).choice) = (((outcomes_f m parent (mm.take 250) slot)[k]!).choice))))), Sp.eq (vif (!(u2 || (!decide ((((outcomes_f m parent (l.take 250) slot)[i]!).choice) = (((outcomes_f m parent (mm.take 250) slot)[k]!).choice))))) (.slice A17_10 (outcomes_f m parent (l.take 250) slot).length c17_10)), Sp.eq (vif (!(u2 || (!decide ((((outcomes_f m parent (l.take 250) slot)[i]!).choice) = (((outcomes_f m parent (mm.take 250) slot)[k]!).choice))))) (.int .i64 ((i : Nat) : Int))), Sp.eq (vif (!(u2 || (!decide ((((outcomes_f m parent (l.take 250) slot)[i]!).choice) = (((outcomes_f m parent (mm.take 250) slot)[k]!).choice))))) (.pointer (some ((adr A17_10).add (i * 11))))), Sp.eq (vif (!(u2 || (!decide ((((outcomes_f m parent (l.take 250) slot)[i]!).choice) = (((outcomes_f m parent (mm.take 250) slot)[k]!).choice))))) (.pointer (some (((adr A17_10).add (i * 11)).add 3)))), Sp.eq (vif (!(u2 || (!decide ((((outcomes_f m parent (l.take 250) slot)[i]!).choice) = (((outcomes_f m parent (mm.take 250) slot)[k]!).choice))))) (Enc.val (((outcomes_f m parent (l.take 250) slot)[i]!).value))), Sp.eq (vif (!(u2 || (!decide ((((outcomes_f m parent (l.take 250) slot)[i]!).choice) = (((outcomes_f m parent (mm.take 250) slot)[k]!).choice))))) (.slice A17_11 (outcomes_f m parent (mm.take 250) slot).length c17_11)), Sp.eq (vif (!(u2 || (!decide ((((outcomes_f m parent (l.take 250) slot)[i]!).choice) = (((outcomes_f m parent (mm.take 250) slot)[k]!).choice))))) (.int .i64 ((k : Nat) : Int))), Sp.eq (vif (!(u2 || (!decide ((((outcomes_f m parent (l.take 250) slot)[i]!).choice) = (((outcomes_f m parent (mm.take 250) slot)[k]!).choice))))) (.pointer (some ((adr A17_11).add (k * 11))))), Sp.eq (vif (!(u2 || (!decide ((((outcomes_f m parent (l.take 250) slot)[i]!).choice) = (((outcomes_f m parent (mm.take 250) slot)[k]!).choice))))) (.pointer (some (((adr A17_11).add (k * 11)).add 3)))), Sp.eq (vif (!(u2 || (!decide ((((outcomes_f m parent (l.take 250) slot)[i]!).choice) = (((outcomes_f m parent (mm.take 250) slot)[k]!).choice))))) (Enc.val (((outcomes_f m parent (mm.take 250) slot)[k]!).value))), Sp.eq (vif (!(u2 || (!decide ((((outcomes_f m parent (l.take 250) slot)[i]!).choice) = (((outcomes_f m parent (mm.take 250) slot)[k]!).choice))))) (.bool (!decide (((outcomes_f m parent (l.take 250) slot)[i]!).value = ((outcomes_f m parent (mm.take 250) slot)[k]!).value)))), Sp.eq (.bool ((u2 || (!decide ((((outcomes_f m parent (l.take 250) slot)[i]!).choice) = (((outcomes_f m parent (mm.take 250) slot)[k]!).choice)))) || (!decide (((outcomes_f m parent (l.take 250) slot)[i]!).value = ((outcomes_f m parent (mm.take 250) slot)[k]!).value)))), Sp.eq (.bool ((u2 || (!decide ((((outcomes_f m parent (l.take 250) slot)[i]!).choice) = (((outcomes_f m parent (mm.take 250) slot)[k]!).choice)))) || (!decide (((outcomes_f m parent (l.take 250) slot)[i]!).value = ((outcomes_f m parent (mm.take 250) slot)[k]!).value))))] mixed (by rfl) (OblsL.cons ?_ (OblsL.cons ?_ (OblsL.cons ?_ (OblsL.cons ?_ (OblsL.cons ?_ (OblsL.cons ?_ (OblsL.cons ?_ (OblsL.cons ?_ (OblsL.cons ?_ (OblsL.cons ?_ (OblsL.cons ?_ (OblsL.cons ?_ (OblsL.cons ?_ (OblsL.cons ?_ (OblsL.cons ?_ (OblsL.cons ?_ (OblsL.cons ?_ (OblsL.cons ?_ (OblsL.cons ?_ (OblsL.cons ?_ (OblsL.cons ?_ (OblsL.cons ?_ (OblsL.cons ?_ (OblsL.cons ?_ (OblsL.cons ?_ (OblsL.cons ?_ (OblsL.cons ?_ (OblsL.cons ?_ OblsL.nil)))))))))))))))))))))))))))) ?_
      · intro f25 w25 hx25 ho25 hd25 hl25
        have d25_s13 : f25 13 = (.bool u2) := (hl25 27 13 rfl rfl).trans s22_13
        exact D.val rfl (op_move rfl d25_s13)
      · intro f26 w26 hx26 ho26 hd26 hl26
        have d26_0 : f26 44 = (.bool u2) := hd26 0 rfl
        exact D.val rfl (op_move rfl d26_0)
      · intro f27 w27 hx27 ho27 hd27 hl27
        have d27_s11 : f27 11 = (.slice A17_10 (outcomes_f m parent (l.take 250) slot).length c17_10) := (ho27 11 rfl).trans s22_11
        have d27_1 : f27 45 = (.bool u2) := hd27 1 rfl
        exact D.guardv (wanted_no rfl rfl d27_1) (fun hg => (op_move rfl d27_s11))
      · intro f28 w28 hx28 ho28 hd28 hl28
        have d28_s14 : f28 14 = (.int .i64 ((i : Nat) : Int)) := (ho28 14 rfl).trans s22_14
        have d28_1 : f28 45 = (.bool u2) := hd28 1 rfl
        exact D.guardv (wanted_no rfl rfl d28_1) (fun hg => (op_move rfl d28_s14))
      · intro f29 w29 hx29 ho29 hd29 hl29
        have d29_1 : f29 45 = (.bool u2) := hd29 1 rfl
        have d29_2 : f29 46 = (vif (!u2) (.slice A17_10 (outcomes_f m parent (l.take 250) slot).length c17_10)) := hd29 2 rfl
        have d29_3 : f29 47 = (vif (!u2) (.int .i64 ((i : Nat) : Int))) := hd29 3 rfl
        have hR_l := hR_l.ext hx29
        have hR_mm := hR_mm.ext hx29
        have hB1 := hB1.ext hx29
        have hR2 := hR2.ext hx29
        have hR3 := hR3.ext hx29
        have hR17_10 := hR17_10.ext hx29
        have hR17_11 := hR17_11.ext hx29
        exact D.guardv (wanted_no rfl rfl d29_1) (fun hg => by have hp := hg; simp only [Bool.and_eq_true, Bool.or_eq_true, Bool.not_eq_true', decide_eq_true_eq, decide_eq_false_iff_not, bne_iff_ne, beq_iff_eq] at hp; skip; exact (op_index (k := i) rfl ((show _ = vif _ (.slice A17_10 (outcomes_f m parent (l.take 250) slot).length c17_10) from d29_2).trans (vif_t hg).symm) ((show _ = vif _ (.int .i64 ((i : Nat) : Int)) from d29_3).trans (vif_t hg).symm) sl37 (hR17_10.getA (get_bang (l := outcomes_f m parent (l.take 250) slot) (k := i) (by omega))).1 rfl (by omega) rfl))
      · intro f30 w30 hx30 ho30 hd30 hl30
        have d30_1 : f30 45 = (.bool u2) := hd30 1 rfl
        have d30_4 : f30 48 = (vif (!u2) (.pointer (some ((adr A17_10).add (i * 11))))) := hd30 4 rfl
        exact D.guardv (wanted_no rfl rfl d30_1) (fun hg => (op_field rfl ((show _ = vif _ (.pointer (some ((adr A17_10).add (i * 11)))) from d30_4).trans (vif_t hg).symm) fo49_2 rfl))
      · intro f31 w31 hx31 ho31 hd31 hl31
        have d31_1 : f31 45 = (.bool u2) := hd31 1 rfl
        have d31_5 : f31 49 = (vif (!u2) (.pointer (some (((adr A17_10).add (i * 11)).add 2)))) := hd31 5 rfl
        have hR_l := hR_l.ext hx31
        have hR_mm := hR_mm.ext hx31
        have hB1 := hB1.ext hx31
        have hR2 := hR2.ext hx31
        have hR3 := hR3.ext hx31
        have hR17_10 := hR17_10.ext hx31
        have hR17_11 := hR17_11.ext hx31
        exact D.guardv (wanted_no rfl rfl d31_1) (fun hg => by have hp := hg; simp only [Bool.and_eq_true, Bool.or_eq_true, Bool.not_eq_true', decide_eq_true_eq, decide_eq_false_iff_not, bne_iff_ne, beq_iff_eq] at hp; skip; exact (op_load1 rfl ((show _ = vif _ (.pointer (some (((adr A17_10).add (i * 11)).add 2))) from d31_5).trans (vif_t hg).symm) one3 ((hR17_10.getA (get_bang (l := outcomes_f m parent (l.take 250) slot) (k := i) (by omega))).2.one (n := 2) rfl)))
      · intro f32 w32 hx32 ho32 hd32 hl32
        have d32_s12 : f32 12 = (.slice A17_11 (outcomes_f m parent (mm.take 250) slot).length c17_11) := (ho32 12 rfl).trans s22_12
        have d32_1 : f32 45 = (.bool u2) := hd32 1 rfl
        exact D.guardv (wanted_no rfl rfl d32_1) (fun hg => (op_move rfl d32_s12))
      · intro f33 w33 hx33 ho33 hd33 hl33
        have d33_s15 : f33 15 = (.int .i64 ((k : Nat) : Int)) := (ho33 15 rfl).trans s22_15
        have d33_1 : f33 45 = (.bool u2) := hd33 1 rfl
        exact D.guardv (wanted_no rfl rfl d33_1) (fun hg => (op_move rfl d33_s15))
      · intro f34 w34 hx34 ho34 hd34 hl34
        have d34_1 : f34 45 = (.bool u2) := hd34 1 rfl
        have d34_7 : f34 51 = (vif (!u2) (.slice A17_11 (outcomes_f m parent (mm.take 250) slot).length c17_11)) := hd34 7 rfl
        have d34_8 : f34 52 = (vif (!u2) (.int .i64 ((k : Nat) : Int))) := hd34 8 rfl
        have hR_l := hR_l.ext hx34
        have hR_mm := hR_mm.ext hx34
        have hB1 := hB1.ext hx34
        have hR2 := hR2.ext hx34
        have hR3 := hR3.ext hx34
        have hR17_10 := hR17_10.ext hx34
        have hR17_11 := hR17_11.ext hx34
        exact D.guardv (wanted_no rfl rfl d34_1) (fun hg => by have hp := hg; simp only [Bool.and_eq_true, Bool.or_eq_true, Bool.not_eq_true', decide_eq_true_eq, decide_eq_false_iff_not, bne_iff_ne, beq_iff_eq] at hp; skip; exact (op_index (k := k) rfl ((show _ = vif _ (.slice A17_11 (outcomes_f m parent (mm.take 250) slot).length c17_11) from d34_7).trans (vif_t hg).symm) ((show _ = vif _ (.int .i64 ((k : Nat) : Int)) from d34_8).trans (vif_t hg).symm) sl37 (hR17_11.getA (get_bang (l := outcomes_f m parent (mm.take 250) slot) (k := k) (by omega))).1 rfl (by omega) rfl))
      · intro f35 w35 hx35 ho35 hd35 hl35
        have d35_1 : f35 45 = (.bool u2) := hd35 1 rfl
        have d35_9 : f35 53 = (vif (!u2) (.pointer (some ((adr A17_11).add (k * 11))))) := hd35 9 rfl
        exact D.guardv (wanted_no rfl rfl d35_1) (fun hg => (op_field rfl ((show _ = vif _ (.pointer (some ((adr A17_11).add (k * 11)))) from d35_9).trans (vif_t hg).symm) fo49_2 rfl))
      · intro f36 w36 hx36 ho36 hd36 hl36
        have d36_1 : f36 45 = (.bool u2) := hd36 1 rfl
        have d36_10 : f36 54 = (vif (!u2) (.pointer (some (((adr A17_11).add (k * 11)).add 2)))) := hd36 10 rfl
        have hR_l := hR_l.ext hx36
        have hR_mm := hR_mm.ext hx36
        have hB1 := hB1.ext hx36
        have hR2 := hR2.ext hx36
        have hR3 := hR3.ext hx36
        have hR17_10 := hR17_10.ext hx36
        have hR17_11 := hR17_11.ext hx36
        exact D.guardv (wanted_no rfl rfl d36_1) (fun hg => by have hp := hg; simp only [Bool.and_eq_true, Bool.or_eq_true, Bool.not_eq_true', decide_eq_true_eq, decide_eq_false_iff_not, bne_iff_ne, beq_iff_eq] at hp; skip; exact (op_load1 rfl ((show _ = vif _ (.pointer (some (((adr A17_11).add (k * 11)).add 2))) from d36_10).trans (vif_t hg).symm) one3 ((hR17_11.getA (get_bang (l := outcomes_f m parent (mm.take 250) slot) (k := k) (by omega))).2.one (n := 2) rfl)))
      · intro f37 w37 hx37 ho37 hd37 hl37
        have d37_1 : f37 45 = (.bool u2) := hd37 1 rfl
        have d37_6 : f37 50 = (vif (!u2) (.int .i64 (((outcomes_f m parent (l.take 250) slot)[i]!).choice))) := hd37 6 rfl
        have d37_11 : f37 55 = (vif (!u2) (.int .i64 (((outcomes_f m parent (mm.take 250) slot)[k]!).choice))) := hd37 11 rfl
        exact D.guardv (wanted_no rfl rfl d37_1) (fun hg => (op_neq rfl ((show _ = vif _ (.int .i64 (((outcomes_f m parent (l.take 250) slot)[i]!).choice)) from d37_6).trans (vif_t hg).symm) ((show _ = vif _ (.int .i64 (((outcomes_f m parent (mm.take 250) slot)[k]!).choice)) from d37_11).trans (vif_t hg).symm)))
      · intro f38 w38 hx38 ho38 hd38 hl38
        have d38_1 : f38 45 = (.bool u2) := hd38 1 rfl
        have d38_12 : f38 56 = (vif (!u2) (.bool (!decide ((((outcomes_f m parent (l.take 250) slot)[i]!).choice) = (((outcomes_f m parent (mm.take 250) slot)[k]!).choice))))) := hd38 12 rfl
        exact D.val rfl (op_or rfl d38_1 rfl d38_12)
      · intro f39 w39 hx39 ho39 hd39 hl39
        have d39_13 : f39 57 = (.bool (u2 || (!decide ((((outcomes_f m parent (l.take 250) slot)[i]!).choice) = (((outcomes_f m parent (mm.take 250) slot)[k]!).choice))))) := hd39 13 rfl
        exact D.val rfl (op_move rfl d39_13)
      · intro f40 w40 hx40 ho40 hd40 hl40
        have d40_s11 : f40 11 = (.slice A17_10 (outcomes_f m parent (l.take 250) slot).length c17_10) := (ho40 11 rfl).trans s22_11
        have d40_14 : f40 58 = (.bool (u2 || (!decide ((((outcomes_f m parent (l.take 250) slot)[i]!).choice) = (((outcomes_f m parent (mm.take 250) slot)[k]!).choice))))) := hd40 14 rfl
        exact D.guardv (wanted_no rfl rfl d40_14) (fun hg => (op_move rfl d40_s11))
      · intro f41 w41 hx41 ho41 hd41 hl41
        have d41_s14 : f41 14 = (.int .i64 ((i : Nat) : Int)) := (ho41 14 rfl).trans s22_14
        have d41_14 : f41 58 = (.bool (u2 || (!decide ((((outcomes_f m parent (l.take 250) slot)[i]!).choice) = (((outcomes_f m parent (mm.take 250) slot)[k]!).choice))))) := hd41 14 rfl
        exact D.guardv (wanted_no rfl rfl d41_14) (fun hg => (op_move rfl d41_s14))
      · intro f42 w42 hx42 ho42 hd42 hl42
        have d42_14 : f42 58 = (.bool (u2 || (!decide ((((outcomes_f m parent (l.take 250) slot)[i]!).choice) = (((outcomes_f m parent (mm.take 250) slot)[k]!).choice))))) := hd42 14 rfl
        have d42_15 : f42 59 = (vif (!(u2 || (!decide ((((outcomes_f m parent (l.take 250) slot)[i]!).choice) = (((outcomes_f m parent (mm.take 250) slot)[k]!).choice))))) (.slice A17_10 (outcomes_f m parent (l.take 250) slot).length c17_10)) := hd42 15 rfl
        have d42_16 : f42 60 = (vif (!(u2 || (!decide ((((outcomes_f m parent (l.take 250) slot)[i]!).choice) = (((outcomes_f m parent (mm.take 250) slot)[k]!).choice))))) (.int .i64 ((i : Nat) : Int))) := hd42 16 rfl
        have hR_l := hR_l.ext hx42
        have hR_mm := hR_mm.ext hx42
        have hB1 := hB1.ext hx42
        have hR2 := hR2.ext hx42
        have hR3 := hR3.ext hx42
        have hR17_10 := hR17_10.ext hx42
        have hR17_11 := hR17_11.ext hx42
        exact D.guardv (wanted_no rfl rfl d42_14) (fun hg => by have hp := hg; simp only [Bool.and_eq_true, Bool.or_eq_true, Bool.not_eq_true', decide_eq_true_eq, decide_eq_false_iff_not, bne_iff_ne, beq_iff_eq] at hp; skip; exact (op_index (k := i) rfl ((show _ = vif _ (.slice A17_10 (outcomes_f m parent (l.take 250) slot).length c17_10) from d42_15).trans (vif_t hg).symm) ((show _ = vif _ (.int .i64 ((i : Nat) : Int)) from d42_16).trans (vif_t hg).symm) sl37 (hR17_10.getA (get_bang (l := outcomes_f m parent (l.take 250) slot) (k := i) (by omega))).1 rfl (by omega) rfl))
      · intro f43 w43 hx43 ho43 hd43 hl43
        have d43_14 : f43 58 = (.bool (u2 || (!decide ((((outcomes_f m parent (l.take 250) slot)[i]!).choice) = (((outcomes_f m parent (mm.take 250) slot)[k]!).choice))))) := hd43 14 rfl
        have d43_17 : f43 61 = (vif (!(u2 || (!decide ((((outcomes_f m parent (l.take 250) slot)[i]!).choice) = (((outcomes_f m parent (mm.take 250) slot)[k]!).choice))))) (.pointer (some ((adr A17_10).add (i * 11))))) := hd43 17 rfl
        exact D.guardv (wanted_no rfl rfl d43_14) (fun hg => (op_field rfl ((show _ = vif _ (.pointer (some ((adr A17_10).add (i * 11)))) from d43_17).trans (vif_t hg).symm) fo49_3 rfl))
      · intro f44 w44 hx44 ho44 hd44 hl44
        have d44_14 : f44 58 = (.bool (u2 || (!decide ((((outcomes_f m parent (l.take 250) slot)[i]!).choice) = (((outcomes_f m parent (mm.take 250) slot)[k]!).choice))))) := hd44 14 rfl
        have d44_18 : f44 62 = (vif (!(u2 || (!decide ((((outcomes_f m parent (l.take 250) slot)[i]!).choice) = (((outcomes_f m parent (mm.take 250) slot)[k]!).choice))))) (.pointer (some (((adr A17_10).add (i * 11)).add 3)))) := hd44 18 rfl
        have hR_l := hR_l.ext hx44
        have hR_mm := hR_mm.ext hx44
        have hB1 := hB1.ext hx44
        have hR2 := hR2.ext hx44
        have hR3 := hR3.ext hx44
        have hR17_10 := hR17_10.ext hx44
        have hR17_11 := hR17_11.ext hx44
        exact D.guardv (wanted_no rfl rfl d44_14) (fun hg => by have hp := hg; simp only [Bool.and_eq_true, Bool.or_eq_true, Bool.not_eq_true', decide_eq_true_eq, decide_eq_false_iff_not, bne_iff_ne, beq_iff_eq] at hp; skip; exact (op_load (v := (((outcomes_f m parent (l.take 250) slot)[i]!).value : Nm)) rfl ((show _ = vif _ (.pointer (some (((adr A17_10).add (i * 11)).add 3))) from d44_18).trans (vif_t hg).symm) ty24 (sub_nm 3 (hR17_10.getA (get_bang (l := outcomes_f m parent (l.take 250) slot) (k := i) (by omega))).2 rfl)))
      · intro f45 w45 hx45 ho45 hd45 hl45
        have d45_s12 : f45 12 = (.slice A17_11 (outcomes_f m parent (mm.take 250) slot).length c17_11) := (ho45 12 rfl).trans s22_12
        have d45_14 : f45 58 = (.bool (u2 || (!decide ((((outcomes_f m parent (l.take 250) slot)[i]!).choice) = (((outcomes_f m parent (mm.take 250) slot)[k]!).choice))))) := hd45 14 rfl
        exact D.guardv (wanted_no rfl rfl d45_14) (fun hg => (op_move rfl d45_s12))
      · intro f46 w46 hx46 ho46 hd46 hl46
        have d46_s15 : f46 15 = (.int .i64 ((k : Nat) : Int)) := (ho46 15 rfl).trans s22_15
        have d46_14 : f46 58 = (.bool (u2 || (!decide ((((outcomes_f m parent (l.take 250) slot)[i]!).choice) = (((outcomes_f m parent (mm.take 250) slot)[k]!).choice))))) := hd46 14 rfl
        exact D.guardv (wanted_no rfl rfl d46_14) (fun hg => (op_move rfl d46_s15))
      · intro f47 w47 hx47 ho47 hd47 hl47
        have d47_14 : f47 58 = (.bool (u2 || (!decide ((((outcomes_f m parent (l.take 250) slot)[i]!).choice) = (((outcomes_f m parent (mm.take 250) slot)[k]!).choice))))) := hd47 14 rfl
        have d47_20 : f47 64 = (vif (!(u2 || (!decide ((((outcomes_f m parent (l.take 250) slot)[i]!).choice) = (((outcomes_f m parent (mm.take 250) slot)[k]!).choice))))) (.slice A17_11 (outcomes_f m parent (mm.take 250) slot).length c17_11)) := hd47 20 rfl
        have d47_21 : f47 65 = (vif (!(u2 || (!decide ((((outcomes_f m parent (l.take 250) slot)[i]!).choice) = (((outcomes_f m parent (mm.take 250) slot)[k]!).choice))))) (.int .i64 ((k : Nat) : Int))) := hd47 21 rfl
        have hR_l := hR_l.ext hx47
        have hR_mm := hR_mm.ext hx47
        have hB1 := hB1.ext hx47
        have hR2 := hR2.ext hx47
        have hR3 := hR3.ext hx47
        have hR17_10 := hR17_10.ext hx47
        have hR17_11 := hR17_11.ext hx47
        exact D.guardv (wanted_no rfl rfl d47_14) (fun hg => by have hp := hg; simp only [Bool.and_eq_true, Bool.or_eq_true, Bool.not_eq_true', decide_eq_true_eq, decide_eq_false_iff_not, bne_iff_ne, beq_iff_eq] at hp; skip; exact (op_index (k := k) rfl ((show _ = vif _ (.slice A17_11 (outcomes_f m parent (mm.take 250) slot).length c17_11) from d47_20).trans (vif_t hg).symm) ((show _ = vif _ (.int .i64 ((k : Nat) : Int)) from d47_21).trans (vif_t hg).symm) sl37 (hR17_11.getA (get_bang (l := outcomes_f m parent (mm.take 250) slot) (k := k) (by omega))).1 rfl (by omega) rfl))
      · intro f48 w48 hx48 ho48 hd48 hl48
        have d48_14 : f48 58 = (.bool (u2 || (!decide ((((outcomes_f m parent (l.take 250) slot)[i]!).choice) = (((outcomes_f m parent (mm.take 250) slot)[k]!).choice))))) := hd48 14 rfl
        have d48_22 : f48 66 = (vif (!(u2 || (!decide ((((outcomes_f m parent (l.take 250) slot)[i]!).choice) = (((outcomes_f m parent (mm.take 250) slot)[k]!).choice))))) (.pointer (some ((adr A17_11).add (k * 11))))) := hd48 22 rfl
        exact D.guardv (wanted_no rfl rfl d48_14) (fun hg => (op_field rfl ((show _ = vif _ (.pointer (some ((adr A17_11).add (k * 11)))) from d48_22).trans (vif_t hg).symm) fo49_3 rfl))
      · intro f49 w49 hx49 ho49 hd49 hl49
        have d49_14 : f49 58 = (.bool (u2 || (!decide ((((outcomes_f m parent (l.take 250) slot)[i]!).choice) = (((outcomes_f m parent (mm.take 250) slot)[k]!).choice))))) := hd49 14 rfl
        have d49_23 : f49 67 = (vif (!(u2 || (!decide ((((outcomes_f m parent (l.take 250) slot)[i]!).choice) = (((outcomes_f m parent (mm.take 250) slot)[k]!).choice))))) (.pointer (some (((adr A17_11).add (k * 11)).add 3)))) := hd49 23 rfl
        have hR_l := hR_l.ext hx49
        have hR_mm := hR_mm.ext hx49
        have hB1 := hB1.ext hx49
        have hR2 := hR2.ext hx49
        have hR3 := hR3.ext hx49
        have hR17_10 := hR17_10.ext hx49
        have hR17_11 := hR17_11.ext hx49
        exact D.guardv (wanted_no rfl rfl d49_14) (fun hg => by have hp := hg; simp only [Bool.and_eq_true, Bool.or_eq_true, Bool.not_eq_true', decide_eq_true_eq, decide_eq_false_iff_not, bne_iff_ne, beq_iff_eq] at hp; skip; exact (op_load (v := (((outcomes_f m parent (mm.take 250) slot)[k]!).value : Nm)) rfl ((show _ = vif _ (.pointer (some (((adr A17_11).add (k * 11)).add 3))) from d49_23).trans (vif_t hg).symm) ty24 (sub_nm 3 (hR17_11.getA (get_bang (l := outcomes_f m parent (mm.take 250) slot) (k := k) (by omega))).2 rfl)))
      · intro f50 w50 hx50 ho50 hd50 hl50
        have d50_14 : f50 58 = (.bool (u2 || (!decide ((((outcomes_f m parent (l.take 250) slot)[i]!).choice) = (((outcomes_f m parent (mm.take 250) slot)[k]!).choice))))) := hd50 14 rfl
        have d50_19 : f50 63 = (vif (!(u2 || (!decide ((((outcomes_f m parent (l.take 250) slot)[i]!).choice) = (((outcomes_f m parent (mm.take 250) slot)[k]!).choice))))) (Enc.val (((outcomes_f m parent (l.take 250) slot)[i]!).value))) := hd50 19 rfl
        have d50_24 : f50 68 = (vif (!(u2 || (!decide ((((outcomes_f m parent (l.take 250) slot)[i]!).choice) = (((outcomes_f m parent (mm.take 250) slot)[k]!).choice))))) (Enc.val (((outcomes_f m parent (mm.take 250) slot)[k]!).value))) := hd50 24 rfl
        exact D.guardv (wanted_no rfl rfl d50_14) (fun hg => (op_neqe (a := (((outcomes_f m parent (l.take 250) slot)[i]!).value : Nm)) (b := (((outcomes_f m parent (mm.take 250) slot)[k]!).value : Nm)) rfl ((show _ = vif _ (Enc.val (((outcomes_f m parent (l.take 250) slot)[i]!).value)) from d50_19).trans (vif_t hg).symm) ((show _ = vif _ (Enc.val (((outcomes_f m parent (mm.take 250) slot)[k]!).value)) from d50_24).trans (vif_t hg).symm) eq24 (fun _ => ⟨_, rfl⟩) Try.eqGuardType24))
      · intro f51 w51 hx51 ho51 hd51 hl51
        have d51_14 : f51 58 = (.bool (u2 || (!decide ((((outcomes_f m parent (l.take 250) slot)[i]!).choice) = (((outcomes_f m parent (mm.take 250) slot)[k]!).choice))))) := hd51 14 rfl
        have d51_25 : f51 69 = (vif (!(u2 || (!decide ((((outcomes_f m parent (l.take 250) slot)[i]!).choice) = (((outcomes_f m parent (mm.take 250) slot)[k]!).choice))))) (.bool (!decide (((outcomes_f m parent (l.take 250) slot)[i]!).value = ((outcomes_f m parent (mm.take 250) slot)[k]!).value)))) := hd51 25 rfl
        exact D.val rfl (op_or rfl d51_14 rfl d51_25)
      · intro f52 w52 hx52 ho52 hd52 hl52
        have d52_26 : f52 70 = (.bool ((u2 || (!decide ((((outcomes_f m parent (l.take 250) slot)[i]!).choice) = (((outcomes_f m parent (mm.take 250) slot)[k]!).choice)))) || (!decide (((outcomes_f m parent (l.take 250) slot)[i]!).value = ((outcomes_f m parent (mm.take 250) slot)[k]!).value)))) := hd52 26 rfl
        exact D.val rfl (op_assign rfl d52_26)
      intro f53 w53 hx53 ho53 hr53
      have s0 : f53 0 = (.int .i64 m) := (ho53 0 rfl).trans s22_0
      have s2 : f53 2 = (.slice A2 (l.take 250).length c2) := (ho53 2 rfl).trans s22_2
      have s3 : f53 3 = (.slice A3 (mm.take 250).length c3) := (ho53 3 rfl).trans s22_3
      have s6 : f53 6 = (.pointer (some ⟨b1, 0, none⟩)) := (ho53 6 rfl).trans s22_6
      have s10 : f53 10 = (.bool false) := (ho53 10 rfl).trans s22_10
      have s11 : f53 11 = (.slice A17_10 (outcomes_f m parent (l.take 250) slot).length c17_10) := (ho53 11 rfl).trans s22_11
      have s12 : f53 12 = (.slice A17_11 (outcomes_f m parent (mm.take 250) slot).length c17_11) := (ho53 12 rfl).trans s22_12
      have s14 : f53 14 = (.int .i64 ((i : Nat) : Int)) := (ho53 14 rfl).trans s22_14
      have s15 : f53 15 = (.int .i64 ((k : Nat) : Int)) := (ho53 15 rfl).trans s22_15
      have s35 : f53 35 = (.bool (decide (((i : Nat) : Int) < ((outcomes_f m parent (l.take 250) slot).length : Int)))) := (ho53 35 rfl).trans s22_35
      have s41 : f53 41 = (.bool (decide (((k : Nat) : Int) < ((outcomes_f m parent (mm.take 250) slot).length : Int)))) := ho53 41 rfl
      have s13 : f53 13 = (.bool ((u2 || (!decide ((((outcomes_f m parent (l.take 250) slot)[i]!).choice) = (((outcomes_f m parent (mm.take 250) slot)[k]!).choice)))) || (!decide (((outcomes_f m parent (l.take 250) slot)[i]!).value = ((outcomes_f m parent (mm.take 250) slot)[k]!).value)))) := hr53 27 (by decide)
      have hE := hE.trans hx53
      have hS18 := hS18.trans hx53
      have hS21 := hS21.trans hx53
      have hR_l := hR_l.ext hx53
      have hR_mm := hR_mm.ext hx53
      have hB1 := hB1.ext hx53
      have hR2 := hR2.ext hx53
      have hR3 := hR3.ext hx53
      have hR17_10 := hR17_10.ext hx53
      have hR17_11 := hR17_11.ext hx53
      refine blockF_nor ?_
      refine thenF_nor ?_
      refine W.region (by rfl) ?_
      refine L.val rfl (op_move rfl s15) ?_
      refine L.val rfl (op_add (c := ((k + 1 : Nat) : Int)) rfl rfl rfl (by omega) (by omega)) ?_
      refine L.val rfl (op_assign rfl rfl) ?_
      refine L.nil ?_
      refine thenF_nor ?_
      exact ⟨(k + 1, (u2 || (!decide ((((outcomes_f m parent (l.take 250) slot)[i]!).choice) = (((outcomes_f m parent (mm.take 250) slot)[k]!).choice)))) || (!decide (((outcomes_f m parent (l.take 250) slot)[i]!).value = ((outcomes_f m parent (mm.take 250) slot)[k]!).value))), ⟨(by (try dsimp only); omega), (by dsimp only; rw [any_take_go (by omega), ← Bool.or_assoc, hu2]; exact (Bool.or_assoc _ _ _).symm), s0, s2, s3, s6, s10, s11, s12, s14, s35, rfl, s13, hS21⟩, (by (try dsimp only); omega)⟩
    · have hp23 := hc23
      simp only [Bool.and_eq_true, Bool.or_eq_true, Bool.and_eq_false_iff, Bool.or_eq_false_iff, Bool.not_eq_true', Bool.not_eq_false', decide_eq_true_eq, decide_eq_false_iff_not] at hp23
      have hkl : k = (outcomes_f m parent (mm.take 250) slot).length := by omega
      rw [hkl, List.take_length] at hu2
      refine W.exit ?_
      refine thenF_exit ?_
      refine thenF_exit ?_
      refine blockF_hit ?_
      refine blockF_nor ?_
      refine thenF_nor ?_
      refine W.region (by rfl) ?_
      refine L.val rfl (op_move rfl s22_14) ?_
      refine L.val rfl (op_add (c := ((i + 1 : Nat) : Int)) rfl rfl rfl (by omega) (by omega)) ?_
      refine L.val rfl (op_assign rfl rfl) ?_
      refine L.nil ?_
      refine thenF_nor ?_
      exact ⟨(i + 1, u2), ⟨(by (try dsimp only); omega), (by dsimp only; rw [any_take_go (by omega), hu]; exact hu2), s22_0, s22_2, s22_3, s22_6, s22_10, s22_11, s22_12, rfl, s22_13, hS18⟩, (by (try dsimp only); omega)⟩
  · have hp20 := hc20
    simp only [Bool.and_eq_true, Bool.or_eq_true, Bool.and_eq_false_iff, Bool.or_eq_false_iff, Bool.not_eq_true', Bool.not_eq_false', decide_eq_true_eq, decide_eq_false_iff_not] at hp20
    have hil : i = (outcomes_f m parent (l.take 250) slot).length := by omega
    rw [hil, List.take_length] at hu
    refine W.exit ?_
    refine thenF_exit ?_
    refine thenF_exit ?_
    refine blockF_hit ?_
    refine thenF_nor ?_
    refine W.seq ?_
    refine W.seq ?_
    refine W.region (by rfl) ?_
    refine L.val rfl (op_move rfl s19_13) ?_
    refine L.val rfl (op_not rfl rfl) ?_
    refine L.nil ?_
    refine thenF_nor ?_
    refine W.cond (t := !u) rfl (fun hc54 => ?_) (fun hc54 => ?_)
    · have hp54 := hc54
      simp only [Bool.and_eq_true, Bool.or_eq_true, Bool.and_eq_false_iff, Bool.or_eq_false_iff, Bool.not_eq_true', Bool.not_eq_false', decide_eq_true_eq, decide_eq_false_iff_not] at hp54
      have hun := hc54
      refine W.seq ?_
      refine W.region (by rfl) ?_
      refine L.call (v := (.bool true)) rfl (OpS.call (op_call rfl argsN Try.func23 rfl rfl) awake12_ok) ?_
      intro w55 hx55
      have hE := hE.trans hx55
      have hS18 := hS18.trans hx55
      have hR_l := hR_l.ext hx55
      have hR_mm := hR_mm.ext hx55
      have hB1 := hB1.ext hx55
      have hR2 := hR2.ext hx55
      have hR3 := hR3.ext hx55
      have hR17_10 := hR17_10.ext hx55
      have hR17_11 := hR17_11.ext hx55
      refine L.val (v := (.bool true)) rfl (op_assign rfl rfl) ?_
      refine L.nil ?_
      refine thenF_nor ?_
      refine W.ret ?_
      refine thenF_ret ?_
      exact end_ret1 (v := (.bool true)) rfl rfl ⟨rfl, hE⟩
    · have hp54 := hc54
      simp only [Bool.and_eq_true, Bool.or_eq_true, Bool.and_eq_false_iff, Bool.or_eq_false_iff, Bool.not_eq_true', Bool.not_eq_false', decide_eq_true_eq, decide_eq_false_iff_not] at hp54
      have hun := hc54
      simp only [Bool.not_eq_false'] at hun
      have hres := accounts12 (hu.trans hun)
      refine W.skip ?_
      refine thenF_nor ?_
      refine W.seq ?_
      refine W.region (by rfl) ?_
      refine L.val rfl (op_move rfl s19_0) ?_
      refine L.call (v := (.int .i64 (size_f m))) rfl (OpS.call (op_call rfl (argsC rfl argsN) Try.func29 rfl rfl) Size_ok) ?_
      intro w56 hx56
      have hE := hE.trans hx56
      have hS18 := hS18.trans hx56
      have hR_l := hR_l.ext hx56
      have hR_mm := hR_mm.ext hx56
      have hB1 := hB1.ext hx56
      have hR2 := hR2.ext hx56
      have hR3 := hR3.ext hx56
      have hR17_10 := hR17_10.ext hx56
      have hR17_11 := hR17_11.ext hx56
      refine L.val rfl (op_assign rfl rfl) ?_
      refine L.nil ?_
      refine thenF_nor ?_
      refine W.seq ?_
      refine W.drawS [Sp.eq (.int .i64 m), Sp.eq (Enc.val (parent : Nm)), Sp.eq (.int .i64 m), Sp.eq (Enc.val (parent : Nm)), Sp.eq (.slice A2 (l.take 250).length c2), Sp.slr (accepted_f m parent (l.take 250) : List Vt), Sp.eq (.int .i64 m), Sp.eq (Enc.val (parent : Nm)), Sp.eq (.slice A3 (mm.take 250).length c3), Sp.slr (accepted_f m parent (mm.take 250) : List Vt), Sp.eq (.int .i64 (torn_f m parent (accepted_f m parent (l.take 250)) (accepted_f m parent (mm.take 250)))), Sp.eq (.int .i64 (size_f (torn_f m parent (accepted_f m parent (l.take 250)) (accepted_f m parent (mm.take 250))))), Sp.eq (.int .i64 (size_f (torn_f m parent (accepted_f m parent (l.take 250)) (accepted_f m parent (mm.take 250)))))] mixed (by rfl) (Obls.cons ?_ (Obls.cons ?_ (Obls.cons ?_ (Obls.cons ?_ (Obls.cons ?_ (Obls.cons ?_ (Obls.cons ?_ (Obls.cons ?_ (Obls.cons ?_ (Obls.cons ?_ (Obls.cons ?_ (Obls.cons ?_ (Obls.cons ?_ Obls.nil))))))))))))) ?_
      · intro f58 w58 hx58 ho58 hd58
        have d58_s0 : f58 0 = (.int .i64 m) := (ho58 0 rfl).trans s19_0
        exact D.val rfl (op_move rfl d58_s0)
      · intro f59 w59 hx59 ho59 hd59
        have d59_s6 : f59 6 = (.pointer (some ⟨b1, 0, none⟩)) := (ho59 6 rfl).trans s19_6
        have hR_l := hR_l.ext hx59
        have hR_mm := hR_mm.ext hx59
        have hB1 := hB1.ext hx59
        have hR2 := hR2.ext hx59
        have hR3 := hR3.ext hx59
        have hR17_10 := hR17_10.ext hx59
        have hR17_11 := hR17_11.ext hx59
        exact D.val rfl (op_load (v := (parent : Nm)) rfl d59_s6 ty24 hB1.cells)
      · intro f60 w60 hx60 ho60 hd60
        have d60_s0 : f60 0 = (.int .i64 m) := (ho60 0 rfl).trans s19_0
        exact D.val rfl (op_move rfl d60_s0)
      · intro f61 w61 hx61 ho61 hd61
        have d61_s6 : f61 6 = (.pointer (some ⟨b1, 0, none⟩)) := (ho61 6 rfl).trans s19_6
        have hR_l := hR_l.ext hx61
        have hR_mm := hR_mm.ext hx61
        have hB1 := hB1.ext hx61
        have hR2 := hR2.ext hx61
        have hR3 := hR3.ext hx61
        have hR17_10 := hR17_10.ext hx61
        have hR17_11 := hR17_11.ext hx61
        exact D.val rfl (op_load (v := (parent : Nm)) rfl d61_s6 ty24 hB1.cells)
      · intro f62 w62 hx62 ho62 hd62
        have d62_s2 : f62 2 = (.slice A2 (l.take 250).length c2) := (ho62 2 rfl).trans s19_2
        exact D.val rfl (op_move rfl d62_s2)
      · intro f63 w63 hx63 ho63 hd63
        have d63_2 : f63 78 = (.int .i64 m) := hd63 2 rfl
        have d63_3 : f63 79 = (Enc.val (parent : Nm)) := hd63 3 rfl
        have d63_4 : f63 80 = (.slice A2 (l.take 250).length c2) := hd63 4 rfl
        have hR_l := hR_l.ext hx63
        have hR_mm := hR_mm.ext hx63
        have hB1 := hB1.ext hx63
        have hR2 := hR2.ext hx63
        have hR3 := hR3.ext hx63
        have hR17_10 := hR17_10.ext hx63
        have hR17_11 := hR17_11.ext hx63
        exact D.call (R := (Sp.slr (accepted_f m parent (l.take 250) : List Vt)).p) rfl (OpS.call (op_call rfl (argsC d63_2 (argsC d63_3 (argsC d63_4 argsN))) Try.func18 rfl rfl) (Accepted_ok hR2 (by first | omega | (simp only [List.length_drop, List.length_take, List.length_append, List.length_cons, List.length_nil] at *; omega))))
      · intro f64 w64 hx64 ho64 hd64
        have d64_s0 : f64 0 = (.int .i64 m) := (ho64 0 rfl).trans s19_0
        exact D.val rfl (op_move rfl d64_s0)
      · intro f65 w65 hx65 ho65 hd65
        have d65_s6 : f65 6 = (.pointer (some ⟨b1, 0, none⟩)) := (ho65 6 rfl).trans s19_6
        have hR_l := hR_l.ext hx65
        have hR_mm := hR_mm.ext hx65
        have hB1 := hB1.ext hx65
        have hR2 := hR2.ext hx65
        have hR3 := hR3.ext hx65
        have hR17_10 := hR17_10.ext hx65
        have hR17_11 := hR17_11.ext hx65
        exact D.val rfl (op_load (v := (parent : Nm)) rfl d65_s6 ty24 hB1.cells)
      · intro f66 w66 hx66 ho66 hd66
        have d66_s3 : f66 3 = (.slice A3 (mm.take 250).length c3) := (ho66 3 rfl).trans s19_3
        exact D.val rfl (op_move rfl d66_s3)
      · intro f67 w67 hx67 ho67 hd67
        have d67_6 : f67 82 = (.int .i64 m) := hd67 6 rfl
        have d67_7 : f67 83 = (Enc.val (parent : Nm)) := hd67 7 rfl
        have d67_8 : f67 84 = (.slice A3 (mm.take 250).length c3) := hd67 8 rfl
        have hR_l := hR_l.ext hx67
        have hR_mm := hR_mm.ext hx67
        have hB1 := hB1.ext hx67
        have hR2 := hR2.ext hx67
        have hR3 := hR3.ext hx67
        have hR17_10 := hR17_10.ext hx67
        have hR17_11 := hR17_11.ext hx67
        exact D.call (R := (Sp.slr (accepted_f m parent (mm.take 250) : List Vt)).p) rfl (OpS.call (op_call rfl (argsC d67_6 (argsC d67_7 (argsC d67_8 argsN))) Try.func18 rfl rfl) (Accepted_ok hR3 (by first | omega | (simp only [List.length_drop, List.length_take, List.length_append, List.length_cons, List.length_nil] at *; omega))))
      · intro f68 w68 hx68 ho68 hd68
        have d68_0 : f68 76 = (.int .i64 m) := hd68 0 rfl
        have d68_1 : f68 77 = (Enc.val (parent : Nm)) := hd68 1 rfl
        obtain ⟨A68_5, c68_5, lo68_5, hi68_5, e68_5, hcap68_5, hR68_5⟩ := hd68 5 rfl
        have hlen68_5 := hR68_5.len
        obtain ⟨A68_9, c68_9, lo68_9, hi68_9, e68_9, hcap68_9, hR68_9⟩ := hd68 9 rfl
        have hlen68_9 := hR68_9.len
        have hR_l := hR_l.ext hx68
        have hR_mm := hR_mm.ext hx68
        have hB1 := hB1.ext hx68
        have hR2 := hR2.ext hx68
        have hR3 := hR3.ext hx68
        have hR17_10 := hR17_10.ext hx68
        have hR17_11 := hR17_11.ext hx68
        exact D.call (R := (Sp.eq (.int .i64 (torn_f m parent (accepted_f m parent (l.take 250)) (accepted_f m parent (mm.take 250))))).p) rfl (OpS.call (op_call rfl (argsC d68_0 (argsC d68_1 (argsC e68_5 (argsC e68_9 argsN)))) Try.func36 rfl rfl) (torn12_ok hR68_5 hR68_9))
      · intro f69 w69 hx69 ho69 hd69
        have d69_10 : f69 86 = (.int .i64 (torn_f m parent (accepted_f m parent (l.take 250)) (accepted_f m parent (mm.take 250)))) := hd69 10 rfl
        have hR_l := hR_l.ext hx69
        have hR_mm := hR_mm.ext hx69
        have hB1 := hB1.ext hx69
        have hR2 := hR2.ext hx69
        have hR3 := hR3.ext hx69
        have hR17_10 := hR17_10.ext hx69
        have hR17_11 := hR17_11.ext hx69
        exact D.call (R := (Sp.eq (.int .i64 (size_f (torn_f m parent (accepted_f m parent (l.take 250)) (accepted_f m parent (mm.take 250)))))).p) rfl (OpS.call (op_call rfl (argsC d69_10 argsN) Try.func29 rfl rfl) Size_ok)
      · intro f70 w70 hx70 ho70 hd70
        have d70_11 : f70 87 = (.int .i64 (size_f (torn_f m parent (accepted_f m parent (l.take 250)) (accepted_f m parent (mm.take 250))))) := hd70 11 rfl
        exact D.val rfl (op_assign rfl d70_11)
      intro f71 w71 hx71 ho71 hr71
      have s0 : f71 0 = (.int .i64 m) := (ho71 0 rfl).trans s19_0
      have s2 : f71 2 = (.slice A2 (l.take 250).length c2) := (ho71 2 rfl).trans s19_2
      have s3 : f71 3 = (.slice A3 (mm.take 250).length c3) := (ho71 3 rfl).trans s19_3
      have s6 : f71 6 = (.pointer (some ⟨b1, 0, none⟩)) := (ho71 6 rfl).trans s19_6
      have s10 : f71 10 = (.bool false) := (ho71 10 rfl).trans s19_10
      have s11 : f71 11 = (.slice A17_10 (outcomes_f m parent (l.take 250) slot).length c17_10) := (ho71 11 rfl).trans s19_11
      have s12 : f71 12 = (.slice A17_11 (outcomes_f m parent (mm.take 250) slot).length c17_11) := (ho71 12 rfl).trans s19_12
      have s13 : f71 13 = (.bool u) := (ho71 13 rfl).trans s19_13
      have s14 : f71 14 = (.int .i64 ((i : Nat) : Int)) := (ho71 14 rfl).trans s19_14
      have s16 : f71 16 = (.int .i64 (size_f m)) := ho71 16 rfl
      have s35 : f71 35 = (.bool (decide (((i : Nat) : Int) < ((outcomes_f m parent (l.take 250) slot).length : Int)))) := ho71 35 rfl
      have s72 : f71 72 = (.bool (!u)) := ho71 72 rfl
      have s17 : f71 17 = (.int .i64 (size_f (torn_f m parent (accepted_f m parent (l.take 250)) (accepted_f m parent (mm.take 250))))) := hr71 12 (by decide)
      have hE := hE.trans hx71
      have hS18 := hS18.trans hx71
      have hR_l := hR_l.ext hx71
      have hR_mm := hR_mm.ext hx71
      have hB1 := hB1.ext hx71
      have hR2 := hR2.ext hx71
      have hR3 := hR3.ext hx71
      have hR17_10 := hR17_10.ext hx71
      have hR17_11 := hR17_11.ext hx71
      refine thenF_nor ?_
      refine W.seq ?_
      refine W.region (by rfl) ?_
      refine L.val rfl (op_move rfl s17) ?_
      refine L.val rfl (op_move rfl s16) ?_
      refine L.call (v := (.int .i64 (quorum_f (size_f m)))) rfl (OpS.call (op_call rfl (argsC rfl argsN) Try.func31 rfl rfl) (Quorum_ok (by first | omega | (simp only [List.length_drop, List.length_take, List.length_append, List.length_cons, List.length_nil] at *; omega)) (by first | omega | (simp only [List.length_drop, List.length_take, List.length_append, List.length_cons, List.length_nil] at *; omega)))) ?_
      intro w72 hx72
      have hE := hE.trans hx72
      have hS18 := hS18.trans hx72
      have hR_l := hR_l.ext hx72
      have hR_mm := hR_mm.ext hx72
      have hB1 := hB1.ext hx72
      have hR2 := hR2.ext hx72
      have hR3 := hR3.ext hx72
      have hR17_10 := hR17_10.ext hx72
      have hR17_11 := hR17_11.ext hx72
      refine L.val rfl (op_mul rfl rfl rfl rfl (by omega)) ?_
      refine L.val rfl (op_move rfl s16) ?_
      refine L.val rfl (op_sub rfl rfl rfl rfl (by omega)) ?_
      refine L.val rfl (op_geq rfl rfl rfl) ?_
      refine L.val rfl (op_move rfl rfl) ?_
      refine L.guardv (v := (.int .i64 (size_f (torn_f m parent (accepted_f m parent (l.take 250)) (accepted_f m parent (mm.take 250)))))) (wanted_yes rfl rfl rfl) (fun hg => (op_move rfl s17)) ?_
      refine L.guardv (v := (.int .i64 (size_f m))) (wanted_yes rfl rfl rfl) (fun hg => (op_move rfl s16)) ?_
      refine L.guardc (v := (.int .i64 (third_f (size_f m)))) (wanted_yes rfl rfl rfl) (fun hg => by have hp := hg; simp only [Bool.and_eq_true, Bool.or_eq_true, Bool.not_eq_true', decide_eq_true_eq, decide_eq_false_iff_not, bne_iff_ne, beq_iff_eq] at hp; exact (OpS.call (op_call rfl (argsC ((show _ = vif _ (.int .i64 (size_f m)) from rfl).trans (vif_t hg).symm) argsN) Try.func37 rfl rfl) (Third_ok (by first | omega | (simp only [List.length_drop, List.length_take, List.length_append, List.length_cons, List.length_nil] at *; omega)) (by first | omega | (simp only [List.length_drop, List.length_take, List.length_append, List.length_cons, List.length_nil] at *; omega))))) ?_
      intro w73 hx73
      have hE := hE.trans hx73
      have hS18 := hS18.trans hx73
      have hR_l := hR_l.ext hx73
      have hR_mm := hR_mm.ext hx73
      have hB1 := hB1.ext hx73
      have hR2 := hR2.ext hx73
      have hR3 := hR3.ext hx73
      have hR17_10 := hR17_10.ext hx73
      have hR17_11 := hR17_11.ext hx73
      refine L.guardv (v := (.bool (decide ((third_f (size_f m)) ≤ (size_f (torn_f m parent (accepted_f m parent (l.take 250)) (accepted_f m parent (mm.take 250)))))))) (wanted_yes rfl rfl rfl) (fun hg => (op_geq rfl ((show _ = vif _ (.int .i64 (size_f (torn_f m parent (accepted_f m parent (l.take 250)) (accepted_f m parent (mm.take 250))))) from rfl).trans (vif_t hg).symm) ((show _ = vif _ (.int .i64 (third_f (size_f m))) from rfl).trans (vif_t hg).symm))) ?_
      refine L.val rfl (op_and rfl rfl rfl rfl) ?_
      refine L.val rfl (op_move rfl rfl) ?_
      refine L.guardc (v := (.bool true)) (wanted_yes rfl rfl rfl) (fun hg => (OpS.call (op_call rfl argsN Try.func23 rfl rfl) awake12_ok)) ?_
      intro w74 hx74
      have hE := hE.trans hx74
      have hS18 := hS18.trans hx74
      have hR_l := hR_l.ext hx74
      have hR_mm := hR_mm.ext hx74
      have hB1 := hB1.ext hx74
      have hR2 := hR2.ext hx74
      have hR3 := hR3.ext hx74
      have hR17_10 := hR17_10.ext hx74
      have hR17_11 := hR17_11.ext hx74
      refine L.val rfl (op_and rfl rfl rfl rfl) ?_
      refine L.val rfl (op_assign rfl rfl) ?_
      refine L.nil ?_
      refine thenF_nor ?_
      refine W.ret ?_
      exact end_ret1 (v := (.bool (((decide (((2 * (quorum_f (size_f m))) - (size_f m)) ≤ (size_f (torn_f m parent (accepted_f m parent (l.take 250)) (accepted_f m parent (mm.take 250)))))) && (decide ((third_f (size_f m)) ≤ (size_f (torn_f m parent (accepted_f m parent (l.take 250)) (accepted_f m parent (mm.take 250))))))) && true))) rfl rfl ⟨(by rw [hres.1, hres.2]; rfl), hE⟩

end Go.Proofs.Ytdknjfmjddlphaa
