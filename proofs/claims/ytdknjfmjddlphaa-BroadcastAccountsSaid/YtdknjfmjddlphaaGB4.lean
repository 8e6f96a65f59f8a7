/-
  Contracts of functions of the program, each with its walk in the logic of frames. Printed by a program of this session (wip/gen) from the translation.
-/
import Derived.Test.YtdknjfmjddlphaaGB2
import Derived.Test.YtdknjfmjddlphaaLaw15
set_option linter.unusedSimpArgs false
set_option linter.unusedVariables false
namespace Go.Proofs.Ytdknjfmjddlphaa
open Go Go.Fk

set_option maxRecDepth 100000 in
set_option maxHeartbeats 8000000 in
theorem BroadcastAccounts_ok {m : Int} {parent : Nm} {A_l : Option Addr} {c_l lo_l hi_l : Nat} {l : List Vt} {A_mm : Option Addr} {c_mm lo_mm hi_mm : Nat} {mm : List Vt} {slot : Int}  {w : World} (hR_l : Rd w lo_l hi_l A_l l) (hcap_l : l.length ≤ c_l) (hR_mm : Rd w lo_mm hi_mm A_mm mm) (hcap_mm : mm.length ≤ c_mm) : Gives Try.prog 6 #[(.int .i64 m), (Enc.val (parent : Nm)), (.slice A_l l.length c_l), (.slice A_mm mm.length c_mm), (.int .i64 slot)] w fun u w' => u = (.bool true) ∧ Ext w w' := by
  have hE : Ext w w := Ext.refl w
  have hlen_l := hR_l.len
  have hlen_mm := hR_mm.len
  refine gives_of_W Try.func6 rfl Try.ntmps6 rfl ?_
  have htl : (l.take 250).length ≤ 250 := List.length_take_le _ _
  have htm : (mm.take 250).length ≤ 250 := List.length_take_le _ _
  have hsz0 := size_nn m
  have hsz1 := size_le m
  have hq0 := quorum_bounds m
  refine W.seq ?_
  refine W.region (by rfl) ?_
  refine L.step rfl (op_box (cs := (Enc.cells (parent : Nm))) rfl rfl rfl) ?_
  rintro _ w1 ⟨b1, rfl, hb1, hB1, hx1⟩
  have hE := hE.trans hx1
  have hR_l := hR_l.ext hx1
  have hR_mm := hR_mm.ext hx1
  refine L.val (v := (.bool false)) rfl (op_assign rfl rfl) ?_
  refine L.nil ?_
  refine thenF_nor ?_
  refine W.seq ?_
  refine W.region (by rfl) ?_
  refine L.val rfl (op_move rfl rfl) ?_
  refine L.step rfl (OpS.call (op_call rfl (argsC rfl argsN) Try.func27 rfl rfl) (cut15_ok hR_l hcap_l)) ?_
  rintro _ w2 ⟨⟨A2, c2, lo2, hi2, rfl, hcap2, hR2⟩, hx2⟩
  have hE := hE.trans hx2
  have hR_l := hR_l.ext hx2
  have hR_mm := hR_mm.ext hx2
  have hB1 := hB1.ext hx2
  have hlen2 := hR2.len
  refine L.val rfl (op_move rfl rfl) ?_
  refine L.step rfl (OpS.call (op_call rfl (argsC rfl argsN) Try.func27 rfl rfl) (cut15_ok hR_mm hcap_mm)) ?_
  rintro _ w3 ⟨⟨A3, c3, lo3, hi3, rfl, hcap3, hR3⟩, hx3⟩
  have hE := hE.trans hx3
  have hR_l := hR_l.ext hx3
  have hR_mm := hR_mm.ext hx3
  have hB1 := hB1.ext hx3
  have hR2 := hR2.ext hx3
  have hlen3 := hR3.len
  refine L.val rfl (op_assign rfl rfl) ?_
  refine L.val rfl (op_assign rfl rfl) ?_
  refine L.nil ?_
  refine thenF_nor ?_
  refine W.seq ?_
  refine W.drawS [Sp.eq (.int .i64 m), Sp.eq (Enc.val (parent : Nm)), Sp.eq (.slice A2 (l.take 250).length c2), Sp.eq (.int .i64 slot), Sp.slr (certified_f m parent (l.take 250) slot : List Nm), Sp.eq (.int .i64 m), Sp.eq (Enc.val (parent : Nm)), Sp.eq (.slice A3 (mm.take 250).length c3), Sp.eq (.int .i64 slot), Sp.slr (certified_f m parent (mm.take 250) slot : List Nm), Sp.slr (certified_f m parent (l.take 250) slot : List Nm), Sp.slr (certified_f m parent (mm.take 250) slot : List Nm)] mixed (by rfl) (Obls.cons ?_ (Obls.cons ?_ (Obls.cons ?_ (Obls.cons ?_ (Obls.cons ?_ (Obls.cons ?_ (Obls.cons ?_ (Obls.cons ?_ (Obls.cons ?_ (Obls.cons ?_ (Obls.cons ?_ (Obls.cons ?_ Obls.nil)))))))))))) ?_
  · intro f5 w5 hx5 ho5 hd5
    have d5_s0 : f5 0 = (.int .i64 m) := ho5 0 rfl
    exact D.val rfl (op_move rfl d5_s0)
  · intro f6 w6 hx6 ho6 hd6
    have d6_s6 : f6 6 = (.pointer (some ⟨b1, 0, none⟩)) := ho6 6 rfl
    have hR_l := hR_l.ext hx6
    have hR_mm := hR_mm.ext hx6
    have hB1 := hB1.ext hx6
    have hR2 := hR2.ext hx6
    have hR3 := hR3.ext hx6
    exact D.val rfl (op_load (v := (parent : Nm)) rfl d6_s6 ty24 hB1.cells)
  · intro f7 w7 hx7 ho7 hd7
    have d7_s2 : f7 2 = (.slice A2 (l.take 250).length c2) := ho7 2 rfl
    exact D.val rfl (op_move rfl d7_s2)
  · intro f8 w8 hx8 ho8 hd8
    have d8_s4 : f8 4 = (.int .i64 slot) := ho8 4 rfl
    exact D.val rfl (op_move rfl d8_s4)
  · intro f9 w9 hx9 ho9 hd9
    have d9_0 : f9 21 = (.int .i64 m) := hd9 0 rfl
    have d9_1 : f9 22 = (Enc.val (parent : Nm)) := hd9 1 rfl
    have d9_2 : f9 23 = (.slice A2 (l.take 250).length c2) := hd9 2 rfl
    have d9_3 : f9 24 = (.int .i64 slot) := hd9 3 rfl
    have hR_l := hR_l.ext hx9
    have hR_mm := hR_mm.ext hx9
    have hB1 := hB1.ext hx9
    have hR2 := hR2.ext hx9
    have hR3 := hR3.ext hx9
    exact D.call (R := (Sp.slr (certified_f m parent (l.take 250) slot : List Nm)).p) rfl (OpS.call (op_call rfl (argsC d9_0 (argsC d9_1 (argsC d9_2 (argsC d9_3 argsN)))) Try.func28 rfl rfl) (Certified_ok hR2 (by first | omega | (simp only [List.length_drop, List.length_take, List.length_append, List.length_cons, List.length_nil] at *; omega))))
  · intro f10 w10 hx10 ho10 hd10
    have d10_s0 : f10 0 = (.int .i64 m) := ho10 0 rfl
    exact D.val rfl (op_move rfl d10_s0)
  · intro f11 w11 hx11 ho11 hd11
    have d11_s6 : f11 6 = (.pointer (some ⟨b1, 0, none⟩)) := ho11 6 rfl
    have hR_l := hR_l.ext hx11
    have hR_mm := hR_mm.ext hx11
    have hB1 := hB1.ext hx11
    have hR2 := hR2.ext hx11
    have hR3 := hR3.ext hx11
    exact D.val rfl (op_load (v := (parent : Nm)) rfl d11_s6 ty24 hB1.cells)
  · intro f12 w12 hx12 ho12 hd12
    have d12_s3 : f12 3 = (.slice A3 (mm.take 250).length c3) := ho12 3 rfl
    exact D.val rfl (op_move rfl d12_s3)
  · intro f13 w13 hx13 ho13 hd13
    have d13_s4 : f13 4 = (.int .i64 slot) := ho13 4 rfl
    exact D.val rfl (op_move rfl d13_s4)
  · intro f14 w14 hx14 ho14 hd14
    have d14_5 : f14 26 = (.int .i64 m) := hd14 5 rfl
    have d14_6 : f14 27 = (Enc.val (parent : Nm)) := hd14 6 rfl
    have d14_7 : f14 28 = (.slice A3 (mm.take 250).length c3) := hd14 7 rfl
    have d14_8 : f14 29 = (.int .i64 slot) := hd14 8 rfl
    have hR_l := hR_l.ext hx14
    have hR_mm := hR_mm.ext hx14
    have hB1 := hB1.ext hx14
    have hR2 := hR2.ext hx14
    have hR3 := hR3.ext hx14
    exact D.call (R := (Sp.slr (certified_f m parent (mm.take 250) slot : List Nm)).p) rfl (OpS.call (op_call rfl (argsC d14_5 (argsC d14_6 (argsC d14_7 (argsC d14_8 argsN)))) Try.func28 rfl rfl) (Certified_ok hR3 (by first | omega | (simp only [List.length_drop, List.length_take, List.length_append, List.length_cons, List.length_nil] at *; omega))))
  · intro f15 w15 hx15 ho15 hd15
    exact D.call (R := (Sp.slr (certified_f m parent (l.take 250) slot : List Nm)).p) rfl (OpS.val (op_assign rfl rfl) ⟨hd15 4 rfl, Ext.refl _⟩)
  · intro f16 w16 hx16 ho16 hd16
    exact D.call (R := (Sp.slr (certified_f m parent (mm.take 250) slot : List Nm)).p) rfl (OpS.val (op_assign rfl rfl) ⟨hd16 9 rfl, Ext.refl _⟩)
  intro f17 w17 hx17 ho17 hr17
  have s0 : f17 0 = (.int .i64 m) := ho17 0 rfl
  have s1 : f17 1 = (Enc.val (parent : Nm)) := ho17 1 rfl
  have s2 : f17 2 = (.slice A2 (l.take 250).length c2) := ho17 2 rfl
  have s3 : f17 3 = (.slice A3 (mm.take 250).length c3) := ho17 3 rfl
  have s4 : f17 4 = (.int .i64 slot) := ho17 4 rfl
  have s6 : f17 6 = (.pointer (some ⟨b1, 0, none⟩)) := ho17 6 rfl
  have s10 : f17 10 = (.bool false) := ho17 10 rfl
  obtain ⟨A17_10, c17_10, lo17_10, hi17_10, e17_10, hcap17_10, hR17_10⟩ := hr17 10 (by decide)
  have hlen17_10 := hR17_10.len
  obtain ⟨A17_11, c17_11, lo17_11, hi17_11, e17_11, hcap17_11, hR17_11⟩ := hr17 11 (by decide)
  have hlen17_11 := hR17_11.len
  have hE := hE.trans hx17
  have hR_l := hR_l.ext hx17
  have hR_mm := hR_mm.ext hx17
  have hB1 := hB1.ext hx17
  have hR2 := hR2.ext hx17
  have hR3 := hR3.ext hx17
  refine thenF_nor ?_
  refine W.seq ?_
  refine W.region (by rfl) ?_
  refine L.val rfl (op_move rfl s0) ?_
  refine L.call (v := (.int .i64 (size_f m))) rfl (OpS.call (op_call rfl (argsC rfl argsN) Try.func29 rfl rfl) Size_ok) ?_
  intro w18 hx18
  have hE := hE.trans hx18
  have hR_l := hR_l.ext hx18
  have hR_mm := hR_mm.ext hx18
  have hB1 := hB1.ext hx18
  have hR2 := hR2.ext hx18
  have hR3 := hR3.ext hx18
  have hR17_10 := hR17_10.ext hx18
  have hR17_11 := hR17_11.ext hx18
  refine L.val rfl (op_assign rfl rfl) ?_
  refine L.nil ?_
  refine thenF_nor ?_
  refine W.seq ?_
  refine W.seq ?_
  refine W.region (by rfl) ?_
  refine L.val rfl (op_assign rfl rfl) ?_
  refine L.nil ?_
  refine thenF_nor ?_
  refine W.block ?_
  have S19_hR_l := hR_l
  have S19_hR_mm := hR_mm
  have S19_hB1 := hB1
  have S19_hR2 := hR2
  have S19_hR3 := hR3
  have S19_hR17_10 := hR17_10
  have S19_hR17_11 := hR17_11
  have S19_hE := hE
  have hS19 : Ext w18 w18 := Ext.refl _
  refine W.loopg (γ := Nat) (fun (i : Nat) (f : Fr) (ww : World) => i ≤ (certified_f m parent (l.take 250) slot).length ∧ f 0 = (.int .i64 m) ∧ f 2 = (.slice A2 (l.take 250).length c2) ∧ f 3 = (.slice A3 (mm.take 250).length c3) ∧ f 4 = (.int .i64 slot) ∧ f 6 = (.pointer (some ⟨b1, 0, none⟩)) ∧ f 11 = (.slice A17_10 (certified_f m parent (l.take 250) slot).length c17_10) ∧ f 12 = (.slice A17_11 (certified_f m parent (mm.take 250) slot).length c17_11) ∧ f 13 = (.int .i64 (size_f m)) ∧ f 14 = (.int .i64 ((i : Nat) : Int)) ∧ Ext w18 ww) (fun (i : Nat) => (certified_f m parent (l.take 250) slot).length - i) 0 ⟨(by (try dsimp only); omega), s0, s2, s3, s4, s6, e17_10, e17_11, rfl, rfl, hS19⟩ ?_
  rintro i f20 w20 ⟨hi, s20_0, s20_2, s20_3, s20_4, s20_6, s20_11, s20_12, s20_13, s20_14, hS19⟩
  have hR_l := S19_hR_l.ext hS19
  have hR_mm := S19_hR_mm.ext hS19
  have hB1 := S19_hB1.ext hS19
  have hR2 := S19_hR2.ext hS19
  have hR3 := S19_hR3.ext hS19
  have hR17_10 := S19_hR17_10.ext hS19
  have hR17_11 := S19_hR17_11.ext hS19
  have hE := S19_hE.trans hS19
  refine W.seq ?_
  refine W.seq ?_
  refine W.region (by rfl) ?_
  refine L.val rfl (op_move rfl s20_14) ?_
  refine L.val rfl (op_move rfl s20_11) ?_
  refine L.val rfl (op_len rfl rfl ln40) ?_
  refine L.val rfl (op_lss rfl rfl rfl) ?_
  refine L.nil ?_
  refine thenF_nor ?_
  refine W.cond (t := decide (((i : Nat) : Int) < ((certified_f m parent (l.take 250) slot).length : Int))) rfl (fun hc21 => ?_) (fun hc21 => ?_)
  · have hp21 := hc21
    simp only [Bool.and_eq_true, Bool.or_eq_true, Bool.and_eq_false_iff, Bool.or_eq_false_iff, Bool.not_eq_true', Bool.not_eq_false', decide_eq_true_eq, decide_eq_false_iff_not] at hp21
    refine W.skip ?_
    refine thenF_nor ?_
    refine W.seq ?_
    refine W.block ?_
    refine W.seq ?_
    refine W.region (by rfl) ?_
    refine L.val rfl (op_assign rfl rfl) ?_
    refine L.nil ?_
    refine thenF_nor ?_
    refine W.block ?_
    have S22_hR_l := hR_l
    have S22_hR_mm := hR_mm
    have S22_hB1 := hB1
    have S22_hR2 := hR2
    have S22_hR3 := hR3
    have S22_hR17_10 := hR17_10
    have S22_hR17_11 := hR17_11
    have S22_hE := hE
    have S22_hS19 := hS19
    have hS22 : Ext w20 w20 := Ext.refl _
    refine W.loopg (γ := Nat) (fun (k : Nat) (f : Fr) (ww : World) => k ≤ (certified_f m parent (mm.take 250) slot).length ∧ f 0 = (.int .i64 m) ∧ f 2 = (.slice A2 (l.take 250).length c2) ∧ f 3 = (.slice A3 (mm.take 250).length c3) ∧ f 4 = (.int .i64 slot) ∧ f 6 = (.pointer (some ⟨b1, 0, none⟩)) ∧ f 11 = (.slice A17_10 (certified_f m parent (l.take 250) slot).length c17_10) ∧ f 12 = (.slice A17_11 (certified_f m parent (mm.take 250) slot).length c17_11) ∧ f 13 = (.int .i64 (size_f m)) ∧ f 14 = (.int .i64 ((i : Nat) : Int)) ∧ f 36 = (.bool (decide (((i : Nat) : Int) < ((certified_f m parent (l.take 250) slot).length : Int)))) ∧ f 15 = (.int .i64 ((k : Nat) : Int)) ∧ Ext w20 ww) (fun (k : Nat) => (certified_f m parent (mm.take 250) slot).length - k) 0 ⟨(by (try dsimp only); omega), s20_0, s20_2, s20_3, s20_4, s20_6, s20_11, s20_12, s20_13, s20_14, rfl, rfl, hS22⟩ ?_
    rintro k f23 w23 ⟨hk, s23_0, s23_2, s23_3, s23_4, s23_6, s23_11, s23_12, s23_13, s23_14, s23_36, s23_15, hS22⟩
    have hR_l := S22_hR_l.ext hS22
    have hR_mm := S22_hR_mm.ext hS22
    have hB1 := S22_hB1.ext hS22
    have hR2 := S22_hR2.ext hS22
    have hR3 := S22_hR3.ext hS22
    have hR17_10 := S22_hR17_10.ext hS22
    have hR17_11 := S22_hR17_11.ext hS22
    have hE := S22_hE.trans hS22
    have hS19 := S22_hS19.trans hS22
    refine W.seq ?_
    refine W.seq ?_
    refine W.region (by rfl) ?_
    refine L.val rfl (op_move rfl s23_15) ?_
    refine L.val rfl (op_move rfl s23_12) ?_
    refine L.val rfl (op_len rfl rfl ln40) ?_
    refine L.val rfl (op_lss rfl rfl rfl) ?_
    refine L.nil ?_
    refine thenF_nor ?_
    refine W.cond (t := decide (((k : Nat) : Int) < ((certified_f m parent (mm.take 250) slot).length : Int))) rfl (fun hc24 => ?_) (fun hc24 => ?_)
    · have hp24 := hc24
      simp only [Bool.and_eq_true, Bool.or_eq_true, Bool.and_eq_false_iff, Bool.or_eq_false_iff, Bool.not_eq_true', Bool.not_eq_false', decide_eq_true_eq, decide_eq_false_iff_not] at hp24
      refine W.skip ?_
      refine thenF_nor ?_
      refine W.seq ?_
      refine W.block ?_
      refine W.seq ?_
      refine W.drawS [Sp.eq (.int .i64 m), Sp.eq (Enc.val (parent : Nm)), Sp.eq (.slice A2 (l.take 250).length c2), Sp.eq (.int .i64 slot), Sp.eq (.slice A17_10 (certified_f m parent (l.take 250) slot).length c17_10), Sp.eq (.int .i64 ((i : Nat) : Int)), Sp.eq (.pointer (some ((adr A17_10).add (i * 8)))), Sp.eq (Enc.val ((certified_f m parent (l.take 250) slot)[i]!)), Sp.eq (.int .i64 (echoers_f m parent (l.take 250) slot ((certified_f m parent (l.take 250) slot)[i]!))), Sp.eq (.int .i64 m), Sp.eq (Enc.val (parent : Nm)), Sp.eq (.slice A3 (mm.take 250).length c3), Sp.eq (.int .i64 slot), Sp.eq (.slice A17_11 (certified_f m parent (mm.take 250) slot).length c17_11), Sp.eq (.int .i64 ((k : Nat) : Int)), Sp.eq (.pointer (some ((adr A17_11).add (k * 8)))), Sp.eq (Enc.val ((certified_f m parent (mm.take 250) slot)[k]!)), Sp.eq (.int .i64 (echoers_f m parent (mm.take 250) slot ((certified_f m parent (mm.take 250) slot)[k]!))), Sp.eq (.int .i64 (iand (echoers_f m parent (l.take 250) slot ((certified_f m parent (l.take 250) slot)[i]!)) (echoers_f m parent (mm.take 250) slot ((certified_f m parent (mm.take 250) slot)[k]!)))), Sp.eq (.int .i64 (iand (echoers_f m parent (l.take 250) slot ((certified_f m parent (l.take 250) slot)[i]!)) (echoers_f m parent (mm.take 250) slot ((certified_f m parent (mm.take 250) slot)[k]!))))] mixed (by rfl) (Obls.cons ?_ (Obls.cons ?_ (Obls.cons ?_ (Obls.cons ?_ (Obls.cons ?_ (Obls.cons ?_ (Obls.cons ?_ (Obls.cons ?_ (Obls.cons ?_ (Obls.cons ?_ (Obls.cons ?_ (Obls.cons ?_ (Obls.cons ?_ (Obls.cons ?_ (Obls.cons ?_ (Obls.cons ?_ (Obls.cons ?_ (Obls.cons ?_ (Obls.cons ?_ (Obls.cons ?_ Obls.nil)))))))))))))))))))) ?_
      · intro f26 w26 hx26 ho26 hd26
        have d26_s0 : f26 0 = (.int .i64 m) := (ho26 0 rfl).trans s23_0
        exact D.val rfl (op_move rfl d26_s0)
      · intro f27 w27 hx27 ho27 hd27
        have d27_s6 : f27 6 = (.pointer (some ⟨b1, 0, none⟩)) := (ho27 6 rfl).trans s23_6
        have hR_l := hR_l.ext hx27
        have hR_mm := hR_mm.ext hx27
        have hB1 := hB1.ext hx27
        have hR2 := hR2.ext hx27
        have hR3 := hR3.ext hx27
        have hR17_10 := hR17_10.ext hx27
        have hR17_11 := hR17_11.ext hx27
        exact D.val rfl (op_load (v := (parent : Nm)) rfl d27_s6 ty24 hB1.cells)
      · intro f28 w28 hx28 ho28 hd28
        have d28_s2 : f28 2 = (.slice A2 (l.take 250).length c2) := (ho28 2 rfl).trans s23_2
        exact D.val rfl (op_move rfl d28_s2)
      · intro f29 w29 hx29 ho29 hd29
        have d29_s4 : f29 4 = (.int .i64 slot) := (ho29 4 rfl).trans s23_4
        exact D.val rfl (op_move rfl d29_s4)
      · intro f30 w30 hx30 ho30 hd30
        have d30_s11 : f30 11 = (.slice A17_10 (certified_f m parent (l.take 250) slot).length c17_10) := (ho30 11 rfl).trans s23_11
        exact D.val rfl (op_move rfl d30_s11)
      · intro f31 w31 hx31 ho31 hd31
        have d31_s14 : f31 14 = (.int .i64 ((i : Nat) : Int)) := (ho31 14 rfl).trans s23_14
        exact D.val rfl (op_move rfl d31_s14)
      · intro f32 w32 hx32 ho32 hd32
        have d32_4 : f32 49 = (.slice A17_10 (certified_f m parent (l.take 250) slot).length c17_10) := hd32 4 rfl
        have d32_5 : f32 50 = (.int .i64 ((i : Nat) : Int)) := hd32 5 rfl
        have hR_l := hR_l.ext hx32
        have hR_mm := hR_mm.ext hx32
        have hB1 := hB1.ext hx32
        have hR2 := hR2.ext hx32
        have hR3 := hR3.ext hx32
        have hR17_10 := hR17_10.ext hx32
        have hR17_11 := hR17_11.ext hx32
        skip
        exact D.val rfl (op_index (k := i) rfl d32_4 d32_5 sl40 (hR17_10.getA (get_bang (l := certified_f m parent (l.take 250) slot) (k := i) (by omega))).1 rfl (by omega) rfl)
      · intro f33 w33 hx33 ho33 hd33
        have d33_6 : f33 51 = (.pointer (some ((adr A17_10).add (i * 8)))) := hd33 6 rfl
        have hR_l := hR_l.ext hx33
        have hR_mm := hR_mm.ext hx33
        have hB1 := hB1.ext hx33
        have hR2 := hR2.ext hx33
        have hR3 := hR3.ext hx33
        have hR17_10 := hR17_10.ext hx33
        have hR17_11 := hR17_11.ext hx33
        skip
        exact D.val rfl (op_load (v := (certified_f m parent (l.take 250) slot)[i]!) rfl d33_6 ty24 (hR17_10.getA (get_bang (l := certified_f m parent (l.take 250) slot) (k := i) (by omega))).2)
      · intro f34 w34 hx34 ho34 hd34
        have d34_0 : f34 45 = (.int .i64 m) := hd34 0 rfl
        have d34_1 : f34 46 = (Enc.val (parent : Nm)) := hd34 1 rfl
        have d34_2 : f34 47 = (.slice A2 (l.take 250).length c2) := hd34 2 rfl
        have d34_3 : f34 48 = (.int .i64 slot) := hd34 3 rfl
        have d34_7 : f34 52 = (Enc.val ((certified_f m parent (l.take 250) slot)[i]!)) := hd34 7 rfl
        have hR_l := hR_l.ext hx34
        have hR_mm := hR_mm.ext hx34
        have hB1 := hB1.ext hx34
        have hR2 := hR2.ext hx34
        have hR3 := hR3.ext hx34
        have hR17_10 := hR17_10.ext hx34
        have hR17_11 := hR17_11.ext hx34
        exact D.call (R := (Sp.eq (.int .i64 (echoers_f m parent (l.take 250) slot ((certified_f m parent (l.take 250) slot)[i]!)))).p) rfl (OpS.call (op_call rfl (argsC d34_0 (argsC d34_1 (argsC d34_2 (argsC d34_3 (argsC d34_7 argsN))))) Try.func30 rfl rfl) (Echoers_ok hR2 (by first | omega | (simp only [List.length_drop, List.length_take, List.length_append, List.length_cons, List.length_nil] at *; omega))))
      · intro f35 w35 hx35 ho35 hd35
        have d35_s0 : f35 0 = (.int .i64 m) := (ho35 0 rfl).trans s23_0
        exact D.val rfl (op_move rfl d35_s0)
      · intro f36 w36 hx36 ho36 hd36
        have d36_s6 : f36 6 = (.pointer (some ⟨b1, 0, none⟩)) := (ho36 6 rfl).trans s23_6
        have hR_l := hR_l.ext hx36
        have hR_mm := hR_mm.ext hx36
        have hB1 := hB1.ext hx36
        have hR2 := hR2.ext hx36
        have hR3 := hR3.ext hx36
        have hR17_10 := hR17_10.ext hx36
        have hR17_11 := hR17_11.ext hx36
        exact D.val rfl (op_load (v := (parent : Nm)) rfl d36_s6 ty24 hB1.cells)
      · intro f37 w37 hx37 ho37 hd37
        have d37_s3 : f37 3 = (.slice A3 (mm.take 250).length c3) := (ho37 3 rfl).trans s23_3
        exact D.val rfl (op_move rfl d37_s3)
      · intro f38 w38 hx38 ho38 hd38
        have d38_s4 : f38 4 = (.int .i64 slot) := (ho38 4 rfl).trans s23_4
        exact D.val rfl (op_move rfl d38_s4)
      · intro f39 w39 hx39 ho39 hd39
        have d39_s12 : f39 12 = (.slice A17_11 (certified_f m parent (mm.take 250) slot).length c17_11) := (ho39 12 rfl).trans s23_12
        exact D.val rfl (op_move rfl d39_s12)
      · intro f40 w40 hx40 ho40 hd40
        have d40_s15 : f40 15 = (.int .i64 ((k : Nat) : Int)) := (ho40 15 rfl).trans s23_15
        exact D.val rfl (op_move rfl d40_s15)
      · intro f41 w41 hx41 ho41 hd41
        have d41_13 : f41 58 = (.slice A17_11 (certified_f m parent (mm.take 250) slot).length c17_11) := hd41 13 rfl
        have d41_14 : f41 59 = (.int .i64 ((k : Nat) : Int)) := hd41 14 rfl
        have hR_l := hR_l.ext hx41
        have hR_mm := hR_mm.ext hx41
        have hB1 := hB1.ext hx41
        have hR2 := hR2.ext hx41
        have hR3 := hR3.ext hx41
        have hR17_10 := hR17_10.ext hx41
        have hR17_11 := hR17_11.ext hx41
        skip
        exact D.val rfl (op_index (k := k) rfl d41_13 d41_14 sl40 (hR17_11.getA (get_bang (l := certified_f m parent (mm.take 250) slot) (k := k) (by omega))).1 rfl (by omega) rfl)
      · intro f42 w42 hx42 ho42 hd42
        have d42_15 : f42 60 = (.pointer (some ((adr A17_11).add (k * 8)))) := hd42 15 rfl
        have hR_l := hR_l.ext hx42
        have hR_mm := hR_mm.ext hx42
        have hB1 := hB1.ext hx42
        have hR2 := hR2.ext hx42
        have hR3 := hR3.ext hx42
        have hR17_10 := hR17_10.ext hx42
        have hR17_11 := hR17_11.ext hx42
        skip
        exact D.val rfl (op_load (v := (certified_f m parent (mm.take 250) slot)[k]!) rfl d42_15 ty24 (hR17_11.getA (get_bang (l := certified_f m parent (mm.take 250) slot) (k := k) (by omega))).2)
      · intro f43 w43 hx43 ho43 hd43
        have d43_9 : f43 54 = (.int .i64 m) := hd43 9 rfl
        have d43_10 : f43 55 = (Enc.val (parent : Nm)) := hd43 10 rfl
        have d43_11 : f43 56 = (.slice A3 (mm.take 250).length c3) := hd43 11 rfl
        have d43_12 : f43 57 = (.int .i64 slot) := hd43 12 rfl
        have d43_16 : f43 61 = (Enc.val ((certified_f m parent (mm.take 250) slot)[k]!)) := hd43 16 rfl
        have hR_l := hR_l.ext hx43
        have hR_mm := hR_mm.ext hx43
        have hB1 := hB1.ext hx43
        have hR2 := hR2.ext hx43
        have hR3 := hR3.ext hx43
        have hR17_10 := hR17_10.ext hx43
        have hR17_11 := hR17_11.ext hx43
        exact D.call (R := (Sp.eq (.int .i64 (echoers_f m parent (mm.take 250) slot ((certified_f m parent (mm.take 250) slot)[k]!)))).p) rfl (OpS.call (op_call rfl (argsC d43_9 (argsC d43_10 (argsC d43_11 (argsC d43_12 (argsC d43_16 argsN))))) Try.func30 rfl rfl) (Echoers_ok hR3 (by first | omega | (simp only [List.length_drop, List.length_take, List.length_append, List.length_cons, List.length_nil] at *; omega))))
      · intro f44 w44 hx44 ho44 hd44
        have d44_8 : f44 53 = (.int .i64 (echoers_f m parent (l.take 250) slot ((certified_f m parent (l.take 250) slot)[i]!))) := hd44 8 rfl
        have d44_17 : f44 62 = (.int .i64 (echoers_f m parent (mm.take 250) slot ((certified_f m parent (mm.take 250) slot)[k]!))) := hd44 17 rfl
        exact D.val rfl (op_iand rfl d44_8 d44_17)
      · intro f45 w45 hx45 ho45 hd45
        have d45_18 : f45 63 = (.int .i64 (iand (echoers_f m parent (l.take 250) slot ((certified_f m parent (l.take 250) slot)[i]!)) (echoers_f m parent (mm.take 250) slot ((certified_f m parent (mm.take 250) slot)[k]!)))) := hd45 18 rfl
        exact D.val rfl (op_assign rfl d45_18)
      intro f46 w46 hx46 ho46 hr46
      have s0 : f46 0 = (.int .i64 m) := (ho46 0 rfl).trans s23_0
      have s2 : f46 2 = (.slice A2 (l.take 250).length c2) := (ho46 2 rfl).trans s23_2
      have s3 : f46 3 = (.slice A3 (mm.take 250).length c3) := (ho46 3 rfl).trans s23_3
      have s4 : f46 4 = (.int .i64 slot) := (ho46 4 rfl).trans s23_4
      have s6 : f46 6 = (.pointer (some ⟨b1, 0, none⟩)) := (ho46 6 rfl).trans s23_6
      have s11 : f46 11 = (.slice A17_10 (certified_f m parent (l.take 250) slot).length c17_10) := (ho46 11 rfl).trans s23_11
      have s12 : f46 12 = (.slice A17_11 (certified_f m parent (mm.take 250) slot).length c17_11) := (ho46 12 rfl).trans s23_12
      have s13 : f46 13 = (.int .i64 (size_f m)) := (ho46 13 rfl).trans s23_13
      have s14 : f46 14 = (.int .i64 ((i : Nat) : Int)) := (ho46 14 rfl).trans s23_14
      have s15 : f46 15 = (.int .i64 ((k : Nat) : Int)) := (ho46 15 rfl).trans s23_15
      have s36 : f46 36 = (.bool (decide (((i : Nat) : Int) < ((certified_f m parent (l.take 250) slot).length : Int)))) := (ho46 36 rfl).trans s23_36
      have s42 : f46 42 = (.bool (decide (((k : Nat) : Int) < ((certified_f m parent (mm.take 250) slot).length : Int)))) := ho46 42 rfl
      have s16 : f46 16 = (.int .i64 (iand (echoers_f m parent (l.take 250) slot ((certified_f m parent (l.take 250) slot)[i]!)) (echoers_f m parent (mm.take 250) slot ((certified_f m parent (mm.take 250) slot)[k]!)))) := hr46 19 (by decide)
      have hE := hE.trans hx46
      have hS19 := hS19.trans hx46
      have hS22 := hS22.trans hx46
      have hR_l := hR_l.ext hx46
      have hR_mm := hR_mm.ext hx46
      have hB1 := hB1.ext hx46
      have hR2 := hR2.ext hx46
      have hR3 := hR3.ext hx46
      have hR17_10 := hR17_10.ext hx46
      have hR17_11 := hR17_11.ext hx46
      refine thenF_nor ?_
      refine W.seq ?_
      refine W.drawS [Sp.eq (.slice A17_10 (certified_f m parent (l.take 250) slot).length c17_10), Sp.eq (.int .i64 ((i : Nat) : Int)), Sp.eq (.pointer (some ((adr A17_10).add (i * 8)))), Sp.eq (Enc.val ((certified_f m parent (l.take 250) slot)[i]!)), Sp.eq (.slice A17_11 (certified_f m parent (mm.take 250) slot).length c17_11), Sp.eq (.int .i64 ((k : Nat) : Int)), Sp.eq (.pointer (some ((adr A17_11).add (k * 8)))), Sp.eq (Enc.val ((certified_f m parent (mm.take 250) slot)[k]!)), Sp.eq (.bool (!decide ((certified_f m parent (l.take 250) slot)[i]! = (certified_f m parent (mm.take 250) slot)[k]!))), Sp.eq (.bool (!decide ((certified_f m parent (l.take 250) slot)[i]! = (certified_f m parent (mm.take 250) slot)[k]!))), Sp.eq (vif (!decide ((certified_f m parent (l.take 250) slot)[i]! = (certified_f m parent (mm.take 250) slot)[k]!)) (.int .i64 (iand (echoers_f m parent (l.take 250) slot ((certified_f m parent (l.take 250) slot)[i]!)) (echoers_f m parent (mm.take 250) slot ((certified_f m parent (mm.take 250) slot)[k]!))))), Sp.eq (vif (!decide ((certified_f m parent (l.take 250) slot)[i]! = (certified_f m parent (mm.take 250) slot)[k]!)) (.int .i64 (size_f (iand (echoers_f m parent (l.take 250) slot ((certified_f m parent (l.take 250) slot)[i]!)) (echoers_f m parent (mm.take 250) slot ((certified_f m parent (mm.take 250) slot)[k]!)))))), Sp.eq (vif (!decide ((certified_f m parent (l.take 250) slot)[i]! = (certified_f m parent (mm.take 250) slot)[k]!)) (.int .i64 (size_f m))), Sp.eq (vif (!decide ((certified_f m parent (l.take 250) slot)[i]! = (certified_f m parent (mm.take 250) slot)[k]!)) (.int .i64 (quorum_f (size_f m)))), Sp.eq (vif (!decide ((certified_f m parent (l.take 250) slot)[i]! = (certified_f m parent (mm.take 250) slot)[k]!)) (.int .i64 (2 * (quorum_f (size_f m))))), Sp.eq (vif (!decide ((certified_f m parent (l.take 250) slot)[i]! = (certified_f m parent (mm.take 250) slot)[k]!)) (.int .i64 (size_f m))), Sp.eq (vif (!decide ((certified_f m parent (l.take 250) slot)[i]! = (certified_f m parent (mm.take 250) slot)[k]!)) (.int .i64 ((2 * (quorum_f (size_f m))) - (size_f m)))), Sp.eq (vif (!decide ((certified_f m parent (l.take 250) slot)[i]! = (certified_f m parent (mm.take 250) slot)[k]!)) (.bool (decide ((size_f (iand (echoers_f m parent (l.take 250) slot ((certified_f m parent (l.take 250) slot)[i]!)) (echoers_f m parent (mm.take 250) slot ((certified_f m parent (mm.take 250) slot)[k]!)))) < ((2 * (quorum_f (size_f m))) - (size_f m)))))), Sp.eq (.bool ((!decide ((certified_f m parent (l.take 250) slot)[i]! = (certified_f m parent (mm.take 250) slot)[k]!)) && (decide ((size_f (iand (echoers_f m parent (l.take 250) slot ((certified_f m parent (l.take 250) slot)[i]!)) (echoers_f m parent (mm.take 250) slot ((certified_f m parent (mm.take 250) slot)[k]!)))) < ((2 * (quorum_f (size_f m))) - (size_f m))))))] mixed (by rfl) (Obls.cons ?_ (Obls.cons ?_ (Obls.cons ?_ (Obls.cons ?_ (Obls.cons ?_ (Obls.cons ?_ (Obls.cons ?_ (Obls.cons ?_ (Obls.cons ?_ (Obls.cons ?_ (Obls.cons ?_ (Obls.cons ?_ (Obls.cons ?_ (Obls.cons ?_ (Obls.cons ?_ (Obls.cons ?_ (Obls.cons ?_ (Obls.cons ?_ (Obls.cons ?_ Obls.nil))))))))))))))))))) ?_
      · intro f48 w48 hx48 ho48 hd48
        have d48_s11 : f48 11 = (.slice A17_10 (certified_f m parent (l.take 250) slot).length c17_10) := (ho48 11 rfl).trans s11
        exact D.val rfl (op_move rfl d48_s11)
      · intro f49 w49 hx49 ho49 hd49
        have d49_s14 : f49 14 = (.int .i64 ((i : Nat) : Int)) := (ho49 14 rfl).trans s14
        exact D.val rfl (op_move rfl d49_s14)
      · intro f50 w50 hx50 ho50 hd50
        have d50_0 : f50 64 = (.slice A17_10 (certified_f m parent (l.take 250) slot).length c17_10) := hd50 0 rfl
        have d50_1 : f50 65 = (.int .i64 ((i : Nat) : Int)) := hd50 1 rfl
        have hR_l := hR_l.ext hx50
        have hR_mm := hR_mm.ext hx50
        have hB1 := hB1.ext hx50
        have hR2 := hR2.ext hx50
        have hR3 := hR3.ext hx50
        have hR17_10 := hR17_10.ext hx50
        have hR17_11 := hR17_11.ext hx50
        skip
        exact D.val rfl (op_index (k := i) rfl d50_0 d50_1 sl40 (hR17_10.getA (get_bang (l := certified_f m parent (l.take 250) slot) (k := i) (by omega))).1 rfl (by omega) rfl)
      · intro f51 w51 hx51 ho51 hd51
        have d51_2 : f51 66 = (.pointer (some ((adr A17_10).add (i * 8)))) := hd51 2 rfl
        have hR_l := hR_l.ext hx51
        have hR_mm := hR_mm.ext hx51
        have hB1 := hB1.ext hx51
        have hR2 := hR2.ext hx51
        have hR3 := hR3.ext hx51
        have hR17_10 := hR17_10.ext hx51
        have hR17_11 := hR17_11.ext hx51
        skip
        exact D.val rfl (op_load (v := (certified_f m parent (l.take 250) slot)[i]!) rfl d51_2 ty24 (hR17_10.getA (get_bang (l := certified_f m parent (l.take 250) slot) (k := i) (by omega))).2)
      · intro f52 w52 hx52 ho52 hd52
        have d52_s12 : f52 12 = (.slice A17_11 (certified_f m parent (mm.take 250) slot).length c17_11) := (ho52 12 rfl).trans s12
        exact D.val rfl (op_move rfl d52_s12)
      · intro f53 w53 hx53 ho53 hd53
        have d53_s15 : f53 15 = (.int .i64 ((k : Nat) : Int)) := (ho53 15 rfl).trans s15
        exact D.val rfl (op_move rfl d53_s15)
      · intro f54 w54 hx54 ho54 hd54
        have d54_4 : f54 68 = (.slice A17_11 (certified_f m parent (mm.take 250) slot).length c17_11) := hd54 4 rfl
        have d54_5 : f54 69 = (.int .i64 ((k : Nat) : Int)) := hd54 5 rfl
        have hR_l := hR_l.ext hx54
        have hR_mm := hR_mm.ext hx54
        have hB1 := hB1.ext hx54
        have hR2 := hR2.ext hx54
        have hR3 := hR3.ext hx54
        have hR17_10 := hR17_10.ext hx54
        have hR17_11 := hR17_11.ext hx54
        skip
        exact D.val rfl (op_index (k := k) rfl d54_4 d54_5 sl40 (hR17_11.getA (get_bang (l := certified_f m parent (mm.take 250) slot) (k := k) (by omega))).1 rfl (by omega) rfl)
      · intro f55 w55 hx55 ho55 hd55
        have d55_6 : f55 70 = (.pointer (some ((adr A17_11).add (k * 8)))) := hd55 6 rfl
        have hR_l := hR_l.ext hx55
        have hR_mm := hR_mm.ext hx55
        have hB1 := hB1.ext hx55
        have hR2 := hR2.ext hx55
        have hR3 := hR3.ext hx55
        have hR17_10 := hR17_10.ext hx55
        have hR17_11 := hR17_11.ext hx55
        skip
        exact D.val rfl (op_load (v := (certified_f m parent (mm.take 250) slot)[k]!) rfl d55_6 ty24 (hR17_11.getA (get_bang (l := certified_f m parent (mm.take 250) slot) (k := k) (by omega))).2)
      · intro f56 w56 hx56 ho56 hd56
        have d56_3 : f56 67 = (Enc.val ((certified_f m parent (l.take 250) slot)[i]!)) := hd56 3 rfl
        have d56_7 : f56 71 = (Enc.val ((certified_f m parent (mm.take 250) slot)[k]!)) := hd56 7 rfl
        exact D.val rfl (op_neqe (a := ((certified_f m parent (l.take 250) slot)[i]! : Nm)) (b := ((certified_f m parent (mm.take 250) slot)[k]! : Nm)) rfl d56_3 d56_7 eq24 (fun _ => ⟨_, rfl⟩) Try.eqGuardType24)
      · intro f57 w57 hx57 ho57 hd57
        have d57_8 : f57 72 = (.bool (!decide ((certified_f m parent (l.take 250) slot)[i]! = (certified_f m parent (mm.take 250) slot)[k]!))) := hd57 8 rfl
        exact D.val rfl (op_move rfl d57_8)
      · intro f58 w58 hx58 ho58 hd58
        have d58_s16 : f58 16 = (.int .i64 (iand (echoers_f m parent (l.take 250) slot ((certified_f m parent (l.take 250) slot)[i]!)) (echoers_f m parent (mm.take 250) slot ((certified_f m parent (mm.take 250) slot)[k]!)))) := (ho58 16 rfl).trans s16
        have d58_9 : f58 73 = (.bool (!decide ((certified_f m parent (l.take 250) slot)[i]! = (certified_f m parent (mm.take 250) slot)[k]!))) := hd58 9 rfl
        exact D.guardv (wanted_yes rfl rfl d58_9) (fun hg => (op_move rfl d58_s16))
      · intro f59 w59 hx59 ho59 hd59
        have d59_9 : f59 73 = (.bool (!decide ((certified_f m parent (l.take 250) slot)[i]! = (certified_f m parent (mm.take 250) slot)[k]!))) := hd59 9 rfl
        have d59_10 : f59 74 = (vif (!decide ((certified_f m parent (l.take 250) slot)[i]! = (certified_f m parent (mm.take 250) slot)[k]!)) (.int .i64 (iand (echoers_f m parent (l.take 250) slot ((certified_f m parent (l.take 250) slot)[i]!)) (echoers_f m parent (mm.take 250) slot ((certified_f m parent (mm.take 250) slot)[k]!))))) := hd59 10 rfl
        have hR_l := hR_l.ext hx59
        have hR_mm := hR_mm.ext hx59
        have hB1 := hB1.ext hx59
        have hR2 := hR2.ext hx59
        have hR3 := hR3.ext hx59
        have hR17_10 := hR17_10.ext hx59
        have hR17_11 := hR17_11.ext hx59
        exact D.guardc (wanted_yes rfl rfl d59_9) (fun hg => (OpS.call (op_call rfl (argsC ((show _ = vif _ (.int .i64 (iand (echoers_f m parent (l.take 250) slot ((certified_f m parent (l.take 250) slot)[i]!)) (echoers_f m parent (mm.take 250) slot ((certified_f m parent (mm.take 250) slot)[k]!)))) from d59_10).trans (vif_t hg).symm) argsN) Try.func29 rfl rfl) Size_ok))
      · intro f60 w60 hx60 ho60 hd60
        have d60_s13 : f60 13 = (.int .i64 (size_f m)) := (ho60 13 rfl).trans s13
        have d60_9 : f60 73 = (.bool (!decide ((certified_f m parent (l.take 250) slot)[i]! = (certified_f m parent (mm.take 250) slot)[k]!))) := hd60 9 rfl
        exact D.guardv (wanted_yes rfl rfl d60_9) (fun hg => (op_move rfl d60_s13))
      · intro f61 w61 hx61 ho61 hd61
        have d61_9 : f61 73 = (.bool (!decide ((certified_f m parent (l.take 250) slot)[i]! = (certified_f m parent (mm.take 250) slot)[k]!))) := hd61 9 rfl
        have d61_12 : f61 76 = (vif (!decide ((certified_f m parent (l.take 250) slot)[i]! = (certified_f m parent (mm.take 250) slot)[k]!)) (.int .i64 (size_f m))) := hd61 12 rfl
        have hR_l := hR_l.ext hx61
        have hR_mm := hR_mm.ext hx61
        have hB1 := hB1.ext hx61
        have hR2 := hR2.ext hx61
        have hR3 := hR3.ext hx61
        have hR17_10 := hR17_10.ext hx61
        have hR17_11 := hR17_11.ext hx61
        exact D.guardc (wanted_yes rfl rfl d61_9) (fun hg => by have hp := hg; (try simp only [Bool.and_eq_true, Bool.or_eq_true, Bool.not_eq_true', decide_eq_true_eq, decide_eq_false_iff_not, bne_iff_ne, beq_iff_eq] at hp); exact (OpS.call (op_call rfl (argsC ((show _ = vif _ (.int .i64 (size_f m)) from d61_12).trans (vif_t hg).symm) argsN) Try.func31 rfl rfl) (Quorum_ok (by first | omega | (simp only [List.length_drop, List.length_take, List.length_append, List.length_cons, List.length_nil] at *; omega)) (by first | omega | (simp only [List.length_drop, List.length_take, List.length_append, List.length_cons, List.length_nil] at *; omega)))))
      · intro f62 w62 hx62 ho62 hd62
        have d62_9 : f62 73 = (.bool (!decide ((certified_f m parent (l.take 250) slot)[i]! = (certified_f m parent (mm.take 250) slot)[k]!))) := hd62 9 rfl
        have d62_13 : f62 77 = (vif (!decide ((certified_f m parent (l.take 250) slot)[i]! = (certified_f m parent (mm.take 250) slot)[k]!)) (.int .i64 (quorum_f (size_f m)))) := hd62 13 rfl
        exact D.guardv (wanted_yes rfl rfl d62_9) (fun hg => by have hp := hg; (try simp only [Bool.and_eq_true, Bool.or_eq_true, Bool.not_eq_true', decide_eq_true_eq, decide_eq_false_iff_not, bne_iff_ne, beq_iff_eq] at hp); skip; exact (op_mul rfl rfl ((show _ = vif _ (.int .i64 (quorum_f (size_f m))) from d62_13).trans (vif_t hg).symm) rfl (by omega)))
      · intro f63 w63 hx63 ho63 hd63
        have d63_s13 : f63 13 = (.int .i64 (size_f m)) := (ho63 13 rfl).trans s13
        have d63_9 : f63 73 = (.bool (!decide ((certified_f m parent (l.take 250) slot)[i]! = (certified_f m parent (mm.take 250) slot)[k]!))) := hd63 9 rfl
        exact D.guardv (wanted_yes rfl rfl d63_9) (fun hg => (op_move rfl d63_s13))
      · intro f64 w64 hx64 ho64 hd64
        have d64_9 : f64 73 = (.bool (!decide ((certified_f m parent (l.take 250) slot)[i]! = (certified_f m parent (mm.take 250) slot)[k]!))) := hd64 9 rfl
        have d64_14 : f64 78 = (vif (!decide ((certified_f m parent (l.take 250) slot)[i]! = (certified_f m parent (mm.take 250) slot)[k]!)) (.int .i64 (2 * (quorum_f (size_f m))))) := hd64 14 rfl
        have d64_15 : f64 79 = (vif (!decide ((certified_f m parent (l.take 250) slot)[i]! = (certified_f m parent (mm.take 250) slot)[k]!)) (.int .i64 (size_f m))) := hd64 15 rfl
        exact D.guardv (wanted_yes rfl rfl d64_9) (fun hg => (op_sub rfl ((show _ = vif _ (.int .i64 (2 * (quorum_f (size_f m)))) from d64_14).trans (vif_t hg).symm) ((show _ = vif _ (.int .i64 (size_f m)) from d64_15).trans (vif_t hg).symm) rfl (by omega)))
      · intro f65 w65 hx65 ho65 hd65
        have d65_9 : f65 73 = (.bool (!decide ((certified_f m parent (l.take 250) slot)[i]! = (certified_f m parent (mm.take 250) slot)[k]!))) := hd65 9 rfl
        have d65_11 : f65 75 = (vif (!decide ((certified_f m parent (l.take 250) slot)[i]! = (certified_f m parent (mm.take 250) slot)[k]!)) (.int .i64 (size_f (iand (echoers_f m parent (l.take 250) slot ((certified_f m parent (l.take 250) slot)[i]!)) (echoers_f m parent (mm.take 250) slot ((certified_f m parent (mm.take 250) slot)[k]!)))))) := hd65 11 rfl
        have d65_16 : f65 80 = (vif (!decide ((certified_f m parent (l.take 250) slot)[i]! = (certified_f m parent (mm.take 250) slot)[k]!)) (.int .i64 ((2 * (quorum_f (size_f m))) - (size_f m)))) := hd65 16 rfl
        exact D.guardv (wanted_yes rfl rfl d65_9) (fun hg => (op_lss rfl ((show _ = vif _ (.int .i64 (size_f (iand (echoers_f m parent (l.take 250) slot ((certified_f m parent (l.take 250) slot)[i]!)) (echoers_f m parent (mm.take 250) slot ((certified_f m parent (mm.take 250) slot)[k]!))))) from d65_11).trans (vif_t hg).symm) ((show _ = vif _ (.int .i64 ((2 * (quorum_f (size_f m))) - (size_f m))) from d65_16).trans (vif_t hg).symm)))
      · intro f66 w66 hx66 ho66 hd66
        have d66_9 : f66 73 = (.bool (!decide ((certified_f m parent (l.take 250) slot)[i]! = (certified_f m parent (mm.take 250) slot)[k]!))) := hd66 9 rfl
        have d66_17 : f66 81 = (vif (!decide ((certified_f m parent (l.take 250) slot)[i]! = (certified_f m parent (mm.take 250) slot)[k]!)) (.bool (decide ((size_f (iand (echoers_f m parent (l.take 250) slot ((certified_f m parent (l.take 250) slot)[i]!)) (echoers_f m parent (mm.take 250) slot ((certified_f m parent (mm.take 250) slot)[k]!)))) < ((2 * (quorum_f (size_f m))) - (size_f m)))))) := hd66 17 rfl
        exact D.val rfl (op_and rfl d66_9 d66_17 rfl)
      intro f67 w67 hx67 ho67 hr67
      have s0 : f67 0 = (.int .i64 m) := (ho67 0 rfl).trans s0
      have s2 : f67 2 = (.slice A2 (l.take 250).length c2) := (ho67 2 rfl).trans s2
      have s3 : f67 3 = (.slice A3 (mm.take 250).length c3) := (ho67 3 rfl).trans s3
      have s4 : f67 4 = (.int .i64 slot) := (ho67 4 rfl).trans s4
      have s6 : f67 6 = (.pointer (some ⟨b1, 0, none⟩)) := (ho67 6 rfl).trans s6
      have s11 : f67 11 = (.slice A17_10 (certified_f m parent (l.take 250) slot).length c17_10) := (ho67 11 rfl).trans s11
      have s12 : f67 12 = (.slice A17_11 (certified_f m parent (mm.take 250) slot).length c17_11) := (ho67 12 rfl).trans s12
      have s13 : f67 13 = (.int .i64 (size_f m)) := (ho67 13 rfl).trans s13
      have s14 : f67 14 = (.int .i64 ((i : Nat) : Int)) := (ho67 14 rfl).trans s14
      have s15 : f67 15 = (.int .i64 ((k : Nat) : Int)) := (ho67 15 rfl).trans s15
      have s16 : f67 16 = (.int .i64 (iand (echoers_f m parent (l.take 250) slot ((certified_f m parent (l.take 250) slot)[i]!)) (echoers_f m parent (mm.take 250) slot ((certified_f m parent (mm.take 250) slot)[k]!)))) := (ho67 16 rfl).trans s16
      have s36 : f67 36 = (.bool (decide (((i : Nat) : Int) < ((certified_f m parent (l.take 250) slot).length : Int)))) := (ho67 36 rfl).trans s36
      have s42 : f67 42 = (.bool (decide (((k : Nat) : Int) < ((certified_f m parent (mm.take 250) slot).length : Int)))) := (ho67 42 rfl).trans s42
      have s82 : f67 82 = (.bool ((!decide ((certified_f m parent (l.take 250) slot)[i]! = (certified_f m parent (mm.take 250) slot)[k]!)) && (decide ((size_f (iand (echoers_f m parent (l.take 250) slot ((certified_f m parent (l.take 250) slot)[i]!)) (echoers_f m parent (mm.take 250) slot ((certified_f m parent (mm.take 250) slot)[k]!)))) < ((2 * (quorum_f (size_f m))) - (size_f m)))))) := hr67 18 (by decide)
      have hE := hE.trans hx67
      have hS19 := hS19.trans hx67
      have hS22 := hS22.trans hx67
      have hR_l := hR_l.ext hx67
      have hR_mm := hR_mm.ext hx67
      have hB1 := hB1.ext hx67
      have hR2 := hR2.ext hx67
      have hR3 := hR3.ext hx67
      have hR17_10 := hR17_10.ext hx67
      have hR17_11 := hR17_11.ext hx67
      refine thenF_nor ?_
      refine W.cond (t := (!decide ((certified_f m parent (l.take 250) slot)[i]! = (certified_f m parent (mm.take 250) slot)[k]!)) && (decide ((size_f (iand (echoers_f m parent (l.take 250) slot ((certified_f m parent (l.take 250) slot)[i]!)) (echoers_f m parent (mm.take 250) slot ((certified_f m parent (mm.take 250) slot)[k]!)))) < ((2 * (quorum_f (size_f m))) - (size_f m))))) s82 (fun hc68 => ?_) (fun hc68 => ?_)
      · have hp68 := hc68
        simp only [Bool.and_eq_true, Bool.or_eq_true, Bool.and_eq_false_iff, Bool.or_eq_false_iff, Bool.not_eq_true', Bool.not_eq_false', decide_eq_true_eq, decide_eq_false_iff_not] at hp68
        exact absurd hc68 (by rw [accounts15 m parent (l.take 250) (mm.take 250) slot i k (by omega) (by omega)]; simp)
      · have hp68 := hc68
        simp only [Bool.and_eq_true, Bool.or_eq_true, Bool.and_eq_false_iff, Bool.or_eq_false_iff, Bool.not_eq_true', Bool.not_eq_false', decide_eq_true_eq, decide_eq_false_iff_not] at hp68
        refine W.skip ?_
        refine blockF_nor ?_
        refine thenF_nor ?_
        refine W.region (by rfl) ?_
        refine L.val rfl (op_move rfl s15) ?_
        refine L.val rfl (op_add (c := ((k + 1 : Nat) : Int)) rfl rfl rfl (by omega) (by omega)) ?_
        refine L.val rfl (op_assign rfl rfl) ?_
        refine L.nil ?_
        refine thenF_nor ?_
        exact ⟨k + 1, ⟨(by (try dsimp only); omega), s0, s2, s3, s4, s6, s11, s12, s13, s14, s36, rfl, hS22⟩, (by (try dsimp only); omega)⟩
    · have hp24 := hc24
      simp only [Bool.and_eq_true, Bool.or_eq_true, Bool.and_eq_false_iff, Bool.or_eq_false_iff, Bool.not_eq_true', Bool.not_eq_false', decide_eq_true_eq, decide_eq_false_iff_not] at hp24
      refine W.exit ?_
      refine thenF_exit ?_
      refine thenF_exit ?_
      refine blockF_hit ?_
      refine blockF_nor ?_
      refine thenF_nor ?_
      refine W.region (by rfl) ?_
      refine L.val rfl (op_move rfl s23_14) ?_
      refine L.val rfl (op_add (c := ((i + 1 : Nat) : Int)) rfl rfl rfl (by omega) (by omega)) ?_
      refine L.val rfl (op_assign rfl rfl) ?_
      refine L.nil ?_
      refine thenF_nor ?_
      exact ⟨i + 1, ⟨(by (try dsimp only); omega), s23_0, s23_2, s23_3, s23_4, s23_6, s23_11, s23_12, s23_13, rfl, hS19⟩, (by (try dsimp only); omega)⟩
  · have hp21 := hc21
    simp only [Bool.and_eq_true, Bool.or_eq_true, Bool.and_eq_false_iff, Bool.or_eq_false_iff, Bool.not_eq_true', Bool.not_eq_false', decide_eq_true_eq, decide_eq_false_iff_not] at hp21
    refine W.exit ?_
    refine thenF_exit ?_
    refine thenF_exit ?_
    refine blockF_hit ?_
    refine thenF_nor ?_
    refine W.seq ?_
    refine W.region (by rfl) ?_
    refine L.call (v := (.bool true)) rfl (OpS.call (op_call rfl argsN Try.func32 rfl rfl) awake15_ok) ?_
    intro w69 hx69
    have hE := hE.trans hx69
    have hS19 := hS19.trans hx69
    have hR_l := hR_l.ext hx69
    have hR_mm := hR_mm.ext hx69
    have hB1 := hB1.ext hx69
    have hR2 := hR2.ext hx69
    have hR3 := hR3.ext hx69
    have hR17_10 := hR17_10.ext hx69
    have hR17_11 := hR17_11.ext hx69
    refine L.val (v := (.bool true)) rfl (op_assign rfl rfl) ?_
    refine L.nil ?_
    refine thenF_nor ?_
    refine W.ret ?_
    exact end_ret1 (v := (.bool true)) rfl rfl ⟨rfl, hE⟩

end Go.Proofs.Ytdknjfmjddlphaa
