/-
  Contracts of functions of the program, each with its walk in the logic of frames. Printed by a program of this session (wip/gen) from the translation.
-/
import Derived.Test.YtdknjfmjddlphaaG8a
import Derived.Test.YtdknjfmjddlphaaG10
import Derived.Test.YtdknjfmjddlphaaLaw12c
set_option linter.unusedSimpArgs false
set_option linter.unusedVariables false
namespace Go.Proofs.Ytdknjfmjddlphaa
open Go Go.Fk

set_option maxRecDepth 100000 in
set_option maxHeartbeats 8000000 in
theorem AcceptGrows_ok {m : Int} {parent : Nm} {A_l : Option Addr} {c_l lo_l hi_l : Nat} {l : List Vt} {A_mm : Option Addr} {c_mm lo_mm hi_mm : Nat} {mm : List Vt} {slot : Int}  {w : World} (hR_l : Rd w lo_l hi_l A_l l) (hcap_l : l.length ≤ c_l) (hR_mm : Rd w lo_mm hi_mm A_mm mm) (hcap_mm : mm.length ≤ c_mm) : Gives Try.prog 8 #[(.int .i64 m), (Enc.val (parent : Nm)), (.slice A_l l.length c_l), (.slice A_mm mm.length c_mm), (.int .i64 slot)] w fun u w' => u = (.bool true) ∧ Ext w w' := by
  have hE : Ext w w := Ext.refl w
  have hlen_l := hR_l.len
  have hlen_mm := hR_mm.len
  refine gives_of_W Try.func8 rfl Try.ntmps8 rfl ?_
  have htl : (l.take 250).length ≤ 250 := List.length_take_le _ _
  have htm : (mm.take 250).length ≤ 250 := List.length_take_le _ _
  have hal := acc_len m parent (l.take 250)
  have hab := acc_len m parent (([] ++ (mm.take 250)) ++ (l.take 250) ++ (mm.take 250))
  have hall : (([] ++ (mm.take 250)) ++ (l.take 250) ++ (mm.take 250)).length ≤ 750 := (by simp only [List.length_append, List.length_nil]; omega)
  refine W.seq ?_
  refine W.region (by rfl) ?_
  refine L.step rfl (op_box (cs := (Enc.cells (parent : Nm))) rfl rfl rfl) ?_
  rintro _ w1 ⟨b1, rfl, hb1, hB1, hx1⟩
  have hE := hE.trans hx1
  have hR_l := hR_l.ext hx1
  have hR_mm := hR_mm.ext hx1
  refine L.val (v := (.bool false)) rfl (op_assign rfl rfl) ?_
  refine L.nil ?_
  refine thenF_nor ?_
  refine W.seq ?_
  refine W.region (by rfl) ?_
  refine L.val rfl (op_move rfl rfl) ?_
  refine L.step rfl (OpS.call (op_call rfl (argsC rfl argsN) Try.func24 rfl rfl) (cut12_ok hR_l hcap_l)) ?_
  rintro _ w2 ⟨⟨A2, c2, lo2, hi2, rfl, hcap2, hR2⟩, hx2⟩
  have hE := hE.trans hx2
  have hR_l := hR_l.ext hx2
  have hR_mm := hR_mm.ext hx2
  have hB1 := hB1.ext hx2
  have hlen2 := hR2.len
  refine L.val rfl (op_move rfl rfl) ?_
  refine L.step rfl (OpS.call (op_call rfl (argsC rfl argsN) Try.func24 rfl rfl) (cut12_ok hR_mm hcap_mm)) ?_
  rintro _ w3 ⟨⟨A3, c3, lo3, hi3, rfl, hcap3, hR3⟩, hx3⟩
  have hE := hE.trans hx3
  have hR_l := hR_l.ext hx3
  have hR_mm := hR_mm.ext hx3
  have hB1 := hB1.ext hx3
  have hR2 := hR2.ext hx3
  have hlen3 := hR3.len
  refine L.val rfl (op_assign rfl rfl) ?_
  refine L.val rfl (op_assign rfl rfl) ?_
  refine L.nil ?_
  refine thenF_nor ?_
  refine W.seq ?_
  have S4_hR_l := hR_l
  have S4_hR_mm := hR_mm
  have S4_hB1 := hB1
  have S4_hR2 := hR2
  have S4_hR3 := hR3
  have S4_hE := hE
  have hS4 : Ext w3 w3 := Ext.refl _
  refine W.region (by rfl) ?_
  refine L.step rfl (op_slice0 Vt (w3.heap.size) hS4.size rfl sl25) ?_
  rintro v5 w5 ⟨hO5, hx5⟩
  have hE := hE.trans hx5
  have hS4 := hS4.trans hx5
  have hR_l := hR_l.ext hx5
  have hR_mm := hR_mm.ext hx5
  have hB1 := hB1.ext hx5
  have hR2 := hR2.ext hx5
  have hR3 := hR3.ext hx5
  refine L.val rfl (op_move rfl rfl) ?_
  refine L.step rfl (op_appendN (l2 := mm.take 250) rfl rfl rfl sl25 zs28 bt28 hO5 hR3 (by simp only [List.length_append, List.length_take, List.length_cons, List.length_nil] at *; omega) (by decide) hS4.size) ?_
  rintro v6 w6 ⟨hO6, hg6⟩
  have hS4 := hS4.own hO5 hg6
  have hR_l := S4_hR_l.ext hS4
  have hR_mm := S4_hR_mm.ext hS4
  have hB1 := S4_hB1.ext hS4
  have hR2 := S4_hR2.ext hS4
  have hR3 := S4_hR3.ext hS4
  have hE := S4_hE.trans hS4
  refine L.val rfl (op_move rfl rfl) ?_
  refine L.step rfl (op_appendN (l2 := l.take 250) rfl rfl rfl sl25 zs28 bt28 hO6 hR2 (by simp only [List.length_append, List.length_take, List.length_cons, List.length_nil] at *; omega) (by decide) hS4.size) ?_
  rintro v7 w7 ⟨hO7, hg7⟩
  have hS4 := hS4.own hO6 hg7
  have hR_l := S4_hR_l.ext hS4
  have hR_mm := S4_hR_mm.ext hS4
  have hB1 := S4_hB1.ext hS4
  have hR2 := S4_hR2.ext hS4
  have hR3 := S4_hR3.ext hS4
  have hE := S4_hE.trans hS4
  refine L.val rfl (op_move rfl rfl) ?_
  refine L.step rfl (op_appendN (l2 := mm.take 250) rfl rfl rfl sl25 zs28 bt28 hO7 hR3 (by simp only [List.length_append, List.length_take, List.length_cons, List.length_nil] at *; omega) (by decide) hS4.size) ?_
  rintro v8 w8 ⟨hO8, hg8⟩
  have hS4 := hS4.own hO7 hg8
  have hR_l := S4_hR_l.ext hS4
  have hR_mm := S4_hR_mm.ext hS4
  have hB1 := S4_hB1.ext hS4
  have hR2 := S4_hR2.ext hS4
  have hR3 := S4_hR3.ext hS4
  have hE := S4_hE.trans hS4
  refine L.val rfl (op_assign rfl rfl) ?_
  refine L.nil ?_
  refine thenF_nor ?_
  refine W.seq ?_
  obtain ⟨A9, c9, hv9, hR9, hcap9⟩ := (hO8).form
  have hlen9 := hR9.len
  refine W.drawS [Sp.eq (.int .i64 m), Sp.eq (Enc.val (parent : Nm)), Sp.eq (.slice A2 (l.take 250).length c2), Sp.slr (accepted_f m parent (l.take 250) : List Vt), Sp.eq (.int .i64 m), Sp.eq (Enc.val (parent : Nm)), Sp.eq (.slice A9 (((([] : List Vt) ++ mm.take 250) ++ l.take 250) ++ mm.take 250).length c9), Sp.slr (accepted_f m parent (((([] : List Vt) ++ mm.take 250) ++ l.take 250) ++ mm.take 250) : List Vt), Sp.slr (accepted_f m parent (l.take 250) : List Vt), Sp.slr (accepted_f m parent (((([] : List Vt) ++ mm.take 250) ++ l.take 250) ++ mm.take 250) : List Vt)] mixed (by rfl) (Obls.cons ?_ (Obls.cons ?_ (Obls.cons ?_ (Obls.cons ?_ (Obls.cons ?_ (Obls.cons ?_ (Obls.cons ?_ (Obls.cons ?_ (Obls.cons ?_ (Obls.cons ?_ Obls.nil)))))))))) ?_
  · intro f11 w11 hx11 ho11 hd11
    have d11_s0 : f11 0 = (.int .i64 m) := ho11 0 rfl
    exact D.val rfl (op_move rfl d11_s0)
  · intro f12 w12 hx12 ho12 hd12
    have d12_s6 : f12 6 = (.pointer (some ⟨b1, 0, none⟩)) := ho12 6 rfl
    have hR_l := hR_l.ext hx12
    have hR_mm := hR_mm.ext hx12
    have hB1 := hB1.ext hx12
    have hR2 := hR2.ext hx12
    have hR3 := hR3.ext hx12
    have hO8 := hO8.ext hx12
    have hR9 := hR9.ext hx12
    exact D.val rfl (op_load (v := (parent : Nm)) rfl d12_s6 ty24 hB1.cells)
  · intro f13 w13 hx13 ho13 hd13
    have d13_s2 : f13 2 = (.slice A2 (l.take 250).length c2) := ho13 2 rfl
    exact D.val rfl (op_move rfl d13_s2)
  · intro f14 w14 hx14 ho14 hd14
    have d14_0 : f14 28 = (.int .i64 m) := hd14 0 rfl
    have d14_1 : f14 29 = (Enc.val (parent : Nm)) := hd14 1 rfl
    have d14_2 : f14 30 = (.slice A2 (l.take 250).length c2) := hd14 2 rfl
    have hR_l := hR_l.ext hx14
    have hR_mm := hR_mm.ext hx14
    have hB1 := hB1.ext hx14
    have hR2 := hR2.ext hx14
    have hR3 := hR3.ext hx14
    have hO8 := hO8.ext hx14
    have hR9 := hR9.ext hx14
    exact D.call (R := (Sp.slr (accepted_f m parent (l.take 250) : List Vt)).p) rfl (OpS.call (op_call rfl (argsC d14_0 (argsC d14_1 (argsC d14_2 argsN))) Try.func18 rfl rfl) (Accepted_ok hR2 (by first | omega | (simp only [List.length_drop, List.length_take, List.length_append, List.length_cons, List.length_nil] at *; omega))))
  · intro f15 w15 hx15 ho15 hd15
    have d15_s0 : f15 0 = (.int .i64 m) := ho15 0 rfl
    exact D.val rfl (op_move rfl d15_s0)
  · intro f16 w16 hx16 ho16 hd16
    have d16_s6 : f16 6 = (.pointer (some ⟨b1, 0, none⟩)) := ho16 6 rfl
    have hR_l := hR_l.ext hx16
    have hR_mm := hR_mm.ext hx16
    have hB1 := hB1.ext hx16
    have hR2 := hR2.ext hx16
    have hR3 := hR3.ext hx16
    have hO8 := hO8.ext hx16
    have hR9 := hR9.ext hx16
    exact D.val rfl (op_load (v := (parent : Nm)) rfl d16_s6 ty24 hB1.cells)
  · intro f17 w17 hx17 ho17 hd17
    have d17_s11 : f17 11 = (.slice A9 (((([] : List Vt) ++ mm.take 250) ++ l.take 250) ++ mm.take 250).length c9) := (ho17 11 rfl).trans ((show _ = v8 from rfl).trans hv9)
    exact D.val rfl (op_move rfl d17_s11)
  · intro f18 w18 hx18 ho18 hd18
    have d18_4 : f18 32 = (.int .i64 m) := hd18 4 rfl
    have d18_5 : f18 33 = (Enc.val (parent : Nm)) := hd18 5 rfl
    have d18_6 : f18 34 = (.slice A9 (((([] : List Vt) ++ mm.take 250) ++ l.take 250) ++ mm.take 250).length c9) := hd18 6 rfl
    have hR_l := hR_l.ext hx18
    have hR_mm := hR_mm.ext hx18
    have hB1 := hB1.ext hx18
    have hR2 := hR2.ext hx18
    have hR3 := hR3.ext hx18
    have hO8 := hO8.ext hx18
    have hR9 := hR9.ext hx18
    exact D.call (R := (Sp.slr (accepted_f m parent (((([] : List Vt) ++ mm.take 250) ++ l.take 250) ++ mm.take 250) : List Vt)).p) rfl (OpS.call (op_call rfl (argsC d18_4 (argsC d18_5 (argsC d18_6 argsN))) Try.func18 rfl rfl) (Accepted_ok hR9 (by first | omega | (simp only [List.length_drop, List.length_take, List.length_append, List.length_cons, List.length_nil] at *; omega))))
  · intro f19 w19 hx19 ho19 hd19
    exact D.call (R := (Sp.slr (accepted_f m parent (l.take 250) : List Vt)).p) rfl (OpS.val (op_assign rfl rfl) ⟨hd19 3 rfl, Ext.refl _⟩)
  · intro f20 w20 hx20 ho20 hd20
    exact D.call (R := (Sp.slr (accepted_f m parent (((([] : List Vt) ++ mm.take 250) ++ l.take 250) ++ mm.take 250) : List Vt)).p) rfl (OpS.val (op_assign rfl rfl) ⟨hd20 7 rfl, Ext.refl _⟩)
  intro f21 w21 hx21 ho21 hr21
  have s0 : f21 0 = (.int .i64 m) := ho21 0 rfl
  have s1 : f21 1 = (Enc.val (parent : Nm)) := ho21 1 rfl
  have s2 : f21 2 = (.slice A2 (l.take 250).length c2) := ho21 2 rfl
  have s3 : f21 3 = (.slice A3 (mm.take 250).length c3) := ho21 3 rfl
  have s4 : f21 4 = (.int .i64 slot) := ho21 4 rfl
  have s6 : f21 6 = (.pointer (some ⟨b1, 0, none⟩)) := ho21 6 rfl
  have s10 : f21 10 = (.bool false) := ho21 10 rfl
  have s11 : f21 11 = (.slice A9 (((([] : List Vt) ++ mm.take 250) ++ l.take 250) ++ mm.take 250).length c9) := (ho21 11 rfl).trans ((show _ = v8 from rfl).trans hv9)
  obtain ⟨A21_8, c21_8, lo21_8, hi21_8, e21_8, hcap21_8, hR21_8⟩ := hr21 8 (by decide)
  have hlen21_8 := hR21_8.len
  obtain ⟨A21_9, c21_9, lo21_9, hi21_9, e21_9, hcap21_9, hR21_9⟩ := hr21 9 (by decide)
  have hlen21_9 := hR21_9.len
  have hE := hE.trans hx21
  have hS4 := hS4.trans hx21
  have hR_l := hR_l.ext hx21
  have hR_mm := hR_mm.ext hx21
  have hB1 := hB1.ext hx21
  have hR2 := hR2.ext hx21
  have hR3 := hR3.ext hx21
  have hO8 := hO8.ext hx21
  have hR9 := hR9.ext hx21
  refine thenF_nor ?_
  refine W.seq ?_
  refine W.seq ?_
  refine W.region (by rfl) ?_
  refine L.val rfl (op_assign rfl rfl) ?_
  refine L.nil ?_
  refine thenF_nor ?_
  refine W.block ?_
  have S22_hR_l := hR_l
  have S22_hR_mm := hR_mm
  have S22_hB1 := hB1
  have S22_hR2 := hR2
  have S22_hR3 := hR3
  have S22_hO8 := hO8
  have S22_hR9 := hR9
  have S22_hR21_8 := hR21_8
  have S22_hR21_9 := hR21_9
  have S22_hE := hE
  have S22_hS4 := hS4
  have hS22 : Ext w21 w21 := Ext.refl _
  refine W.loopg (γ := Nat) (fun (k : Nat) (f : Fr) (ww : World) => k ≤ (accepted_f m parent (l.take 250)).length ∧ f 0 = (.int .i64 m) ∧ f 2 = (.slice A2 (l.take 250).length c2) ∧ f 3 = (.slice A3 (mm.take 250).length c3) ∧ f 4 = (.int .i64 slot) ∧ f 6 = (.pointer (some ⟨b1, 0, none⟩)) ∧ f 11 = v8 ∧ f 12 = (.slice A21_8 (accepted_f m parent (l.take 250)).length c21_8) ∧ f 13 = (.slice A21_9 (accepted_f m parent (((([] : List Vt) ++ mm.take 250) ++ l.take 250) ++ mm.take 250)).length c21_9) ∧ f 14 = (.int .i64 ((k : Nat) : Int)) ∧ Ext w21 ww) (fun (k : Nat) => (accepted_f m parent (l.take 250)).length - k) 0 ⟨(by (try dsimp only); omega), s0, s2, s3, s4, s6, (s11.trans hv9.symm), e21_8, e21_9, rfl, hS22⟩ ?_
  rintro k f23 w23 ⟨hk, s23_0, s23_2, s23_3, s23_4, s23_6, s23_11, s23_12, s23_13, s23_14, hS22⟩
  have hR_l := S22_hR_l.ext hS22
  have hR_mm := S22_hR_mm.ext hS22
  have hB1 := S22_hB1.ext hS22
  have hR2 := S22_hR2.ext hS22
  have hR3 := S22_hR3.ext hS22
  have hO8 := S22_hO8.ext hS22
  have hR9 := S22_hR9.ext hS22
  have hR21_8 := S22_hR21_8.ext hS22
  have hR21_9 := S22_hR21_9.ext hS22
  have hE := S22_hE.trans hS22
  have hS4 := S22_hS4.trans hS22
  refine W.seq ?_
  refine W.seq ?_
  refine W.region (by rfl) ?_
  refine L.val rfl (op_move rfl s23_14) ?_
  refine L.val rfl (op_move rfl s23_12) ?_
  refine L.val rfl (op_len rfl rfl ln25) ?_
  refine L.val rfl (op_lss rfl rfl rfl) ?_
  refine L.nil ?_
  refine thenF_nor ?_
  refine W.cond (t := decide (((k : Nat) : Int) < ((accepted_f m parent (l.take 250)).length : Int))) rfl (fun hc24 => ?_) (fun hc24 => ?_)
  · have hp24 := hc24
    simp only [Bool.and_eq_true, Bool.or_eq_true, Bool.and_eq_false_iff, Bool.or_eq_false_iff, Bool.not_eq_true', Bool.not_eq_false', decide_eq_true_eq, decide_eq_false_iff_not] at hp24
    refine W.skip ?_
    refine thenF_nor ?_
    refine W.seq ?_
    refine W.block ?_
    refine W.seq ?_
    refine W.region (by rfl) ?_
    refine L.val rfl (op_move rfl s23_13) ?_
    refine L.val rfl (op_move rfl s23_12) ?_
    refine L.val rfl (op_move rfl s23_14) ?_
    refine L.val rfl (op_index (k := k) rfl rfl rfl sl25 (hR21_8.getA (get_bang (l := accepted_f m parent (l.take 250)) (k := k) (by omega))).1 rfl (by omega) rfl) ?_
    refine L.val rfl (op_load (v := (accepted_f m parent (l.take 250))[k]!) rfl rfl ty28 (hR21_8.getA (get_bang (l := accepted_f m parent (l.take 250)) (k := k) (by omega))).2) ?_
    refine L.call (v := (.bool ((accepted_f m parent (((([] : List Vt) ++ mm.take 250) ++ l.take 250) ++ mm.take 250)).any (fun x => decide (x = (accepted_f m parent (l.take 250))[k]!))))) rfl (OpS.call (op_call rfl (argsC rfl (argsC rfl argsN)) Try.func19 rfl rfl) (has12_ok hR21_9)) ?_
    intro w25 hx25
    have hE := hE.trans hx25
    have hS4 := hS4.trans hx25
    have hS22 := hS22.trans hx25
    have hR_l := hR_l.ext hx25
    have hR_mm := hR_mm.ext hx25
    have hB1 := hB1.ext hx25
    have hR2 := hR2.ext hx25
    have hR3 := hR3.ext hx25
    have hO8 := hO8.ext hx25
    have hR9 := hR9.ext hx25
    have hR21_8 := hR21_8.ext hx25
    have hR21_9 := hR21_9.ext hx25
    refine L.val rfl (op_not rfl rfl) ?_
    refine L.nil ?_
    refine thenF_nor ?_
    refine W.cond (t := !((accepted_f m parent (((([] : List Vt) ++ mm.take 250) ++ l.take 250) ++ mm.take 250)).any (fun x => decide (x = (accepted_f m parent (l.take 250))[k]!)))) rfl (fun hc26 => ?_) (fun hc26 => ?_)
    · have hp26 := hc26
      simp only [Bool.and_eq_true, Bool.or_eq_true, Bool.and_eq_false_iff, Bool.or_eq_false_iff, Bool.not_eq_true', Bool.not_eq_false', decide_eq_true_eq, decide_eq_false_iff_not] at hp26
      exact absurd hc26 (by rw [grows1 m parent (l.take 250) (mm.take 250) k (by omega)]; simp)
    · have hp26 := hc26
      simp only [Bool.and_eq_true, Bool.or_eq_true, Bool.and_eq_false_iff, Bool.or_eq_false_iff, Bool.not_eq_true', Bool.not_eq_false', decide_eq_true_eq, decide_eq_false_iff_not] at hp26
      refine W.skip ?_
      refine blockF_nor ?_
      refine thenF_nor ?_
      refine W.region (by rfl) ?_
      refine L.val rfl (op_move rfl s23_14) ?_
      refine L.val rfl (op_add (c := ((k + 1 : Nat) : Int)) rfl rfl rfl (by omega) (by omega)) ?_
      refine L.val rfl (op_assign rfl rfl) ?_
      refine L.nil ?_
      refine thenF_nor ?_
      exact ⟨k + 1, ⟨(by (try dsimp only); omega), s23_0, s23_2, s23_3, s23_4, s23_6, s23_11, s23_12, s23_13, rfl, hS22⟩, (by (try dsimp only); omega)⟩
  · have hp24 := hc24
    simp only [Bool.and_eq_true, Bool.or_eq_true, Bool.and_eq_false_iff, Bool.or_eq_false_iff, Bool.not_eq_true', Bool.not_eq_false', decide_eq_true_eq, decide_eq_false_iff_not] at hp24
    refine W.exit ?_
    refine thenF_exit ?_
    refine thenF_exit ?_
    refine blockF_hit ?_
    refine thenF_nor ?_
    refine W.seq ?_
    refine W.region (by rfl) ?_
    refine L.val rfl (op_move rfl s23_0) ?_
    refine L.val rfl (op_load (v := (parent : Nm)) rfl s23_6 ty24 hB1.cells) ?_
    refine L.val rfl (op_move rfl s23_2) ?_
    refine L.val rfl (op_move rfl s23_4) ?_
    refine L.step rfl (OpS.call (op_call rfl (argsC rfl (argsC rfl (argsC rfl (argsC rfl argsN)))) Try.func26 rfl rfl) (Outcomes_ok hR2 (by first | omega | (simp only [List.length_drop, List.length_take, List.length_append, List.length_cons, List.length_nil] at *; omega)))) ?_
    rintro _ w27 ⟨⟨A27, c27, lo27, hi27, rfl, hcap27, hR27⟩, hx27⟩
    have hE := hE.trans hx27
    have hS4 := hS4.trans hx27
    have hS22 := hS22.trans hx27
    have hR_l := hR_l.ext hx27
    have hR_mm := hR_mm.ext hx27
    have hB1 := hB1.ext hx27
    have hR2 := hR2.ext hx27
    have hR3 := hR3.ext hx27
    have hO8 := hO8.ext hx27
    have hR9 := hR9.ext hx27
    have hR21_8 := hR21_8.ext hx27
    have hR21_9 := hR21_9.ext hx27
    have hlen27 := hR27.len
    refine L.val rfl (op_assign rfl rfl) ?_
    refine L.nil ?_
    refine thenF_nor ?_
    refine W.seq ?_
    refine W.seq ?_
    refine W.region (by rfl) ?_
    refine L.val rfl (op_assign rfl rfl) ?_
    refine L.nil ?_
    refine thenF_nor ?_
    refine W.block ?_
    have S28_hR_l := hR_l
    have S28_hR_mm := hR_mm
    have S28_hB1 := hB1
    have S28_hR2 := hR2
    have S28_hR3 := hR3
    have S28_hO8 := hO8
    have S28_hR9 := hR9
    have S28_hR21_8 := hR21_8
    have S28_hR21_9 := hR21_9
    have S28_hR27 := hR27
    have S28_hE := hE
    have S28_hS4 := hS4
    have S28_hS22 := hS22
    have hS28 : Ext w27 w27 := Ext.refl _
    refine W.loopg (γ := Nat) (fun (j : Nat) (f : Fr) (ww : World) => j ≤ (outcomes_f m parent (l.take 250) slot).length ∧ f 0 = (.int .i64 m) ∧ f 2 = (.slice A2 (l.take 250).length c2) ∧ f 3 = (.slice A3 (mm.take 250).length c3) ∧ f 4 = (.int .i64 slot) ∧ f 6 = (.pointer (some ⟨b1, 0, none⟩)) ∧ f 11 = v8 ∧ f 13 = (.slice A21_9 (accepted_f m parent (((([] : List Vt) ++ mm.take 250) ++ l.take 250) ++ mm.take 250)).length c21_9) ∧ f 15 = (.slice A27 (outcomes_f m parent (l.take 250) slot).length c27) ∧ f 16 = (.int .i64 ((j : Nat) : Int)) ∧ Ext w27 ww) (fun (j : Nat) => (outcomes_f m parent (l.take 250) slot).length - j) 0 ⟨(by (try dsimp only); omega), s23_0, s23_2, s23_3, s23_4, s23_6, s23_11, s23_13, rfl, rfl, hS28⟩ ?_
    rintro j f29 w29 ⟨hj, s29_0, s29_2, s29_3, s29_4, s29_6, s29_11, s29_13, s29_15, s29_16, hS28⟩
    have hR_l := S28_hR_l.ext hS28
    have hR_mm := S28_hR_mm.ext hS28
    have hB1 := S28_hB1.ext hS28
    have hR2 := S28_hR2.ext hS28
    have hR3 := S28_hR3.ext hS28
    have hO8 := S28_hO8.ext hS28
    have hR9 := S28_hR9.ext hS28
    have hR21_8 := S28_hR21_8.ext hS28
    have hR21_9 := S28_hR21_9.ext hS28
    have hR27 := S28_hR27.ext hS28
    have hE := S28_hE.trans hS28
    have hS4 := S28_hS4.trans hS28
    have hS22 := S28_hS22.trans hS28
    refine W.seq ?_
    refine W.seq ?_
    refine W.region (by rfl) ?_
    refine L.val rfl (op_move rfl s29_16) ?_
    refine L.val rfl (op_move rfl s29_15) ?_
    refine L.val rfl (op_len rfl rfl ln37) ?_
    refine L.val rfl (op_lss rfl rfl rfl) ?_
    refine L.nil ?_
    refine thenF_nor ?_
    refine W.cond (t := decide (((j : Nat) : Int) < ((outcomes_f m parent (l.take 250) slot).length : Int))) rfl (fun hc30 => ?_) (fun hc30 => ?_)
    · have hp30 := hc30
      simp only [Bool.and_eq_true, Bool.or_eq_true, Bool.and_eq_false_iff, Bool.or_eq_false_iff, Bool.not_eq_true', Bool.not_eq_false', decide_eq_true_eq, decide_eq_false_iff_not] at hp30
      refine W.skip ?_
      refine thenF_nor ?_
      refine W.seq ?_
      refine W.block ?_
      refine W.seq ?_
      obtain ⟨A31, c31, hv31, hR31, hcap31⟩ := (hO8).form
      have hlen31 := hR31.len
      refine W.drawS [Sp.eq (.int .i64 m), Sp.eq (Enc.val (parent : Nm)), Sp.eq (.slice A31 (((([] : List Vt) ++ mm.take 250) ++ l.take 250) ++ mm.take 250).length c31), Sp.eq (.slice A27 (outcomes_f m parent (l.take 250) slot).length c27), Sp.eq (.int .i64 ((j : Nat) : Int)), Sp.eq (.pointer (some ((adr A27).add (j * 11)))), Sp.eq (Enc.val ((outcomes_f m parent (l.take 250) slot)[j]!)), Sp.eq (.bool (decided_f m parent (((([] : List Vt) ++ mm.take 250) ++ l.take 250) ++ mm.take 250) ((outcomes_f m parent (l.take 250) slot)[j]!))), Sp.eq (.bool (!(decided_f m parent (((([] : List Vt) ++ mm.take 250) ++ l.take 250) ++ mm.take 250) ((outcomes_f m parent (l.take 250) slot)[j]!)))), Sp.eq (.bool (!(decided_f m parent (((([] : List Vt) ++ mm.take 250) ++ l.take 250) ++ mm.take 250) ((outcomes_f m parent (l.take 250) slot)[j]!)))), Sp.eq (vif (!(!(decided_f m parent (((([] : List Vt) ++ mm.take 250) ++ l.take 250) ++ mm.take 250) ((outcomes_f m parent (l.take 250) slot)[j]!)))) (.slice A27 (outcomes_f m parent (l.take 250) slot).length c27)), Sp.eq (vif (!(!(decided_f m parent (((([] : List Vt) ++ mm.take 250) ++ l.take 250) ++ mm.take 250) ((outcomes_f m parent (l.take 250) slot)[j]!)))) (.int .i64 ((j : Nat) : Int))), Sp.eq (vif (!(!(decided_f m parent (((([] : List Vt) ++ mm.take 250) ++ l.take 250) ++ mm.take 250) ((outcomes_f m parent (l.take 250) slot)[j]!)))) (.pointer (some ((adr A27).add (j * 11))))), Sp.eq (vif (!(!(decided_f m parent (((([] : List Vt) ++ mm.take 250) ++ l.take 250) ++ mm.take 250) ((outcomes_f m parent (l.take 250) slot)[j]!)))) (.pointer (some ((adr A27).add (j * 11))))), Sp.eq (vif (!(!(decided_f m parent (((([] : List Vt) ++ mm.take 250) ++ l.take 250) ++ mm.take 250) ((outcomes_f m parent (l.take 250) slot)[j]!)))) (.int .i64 (((outcomes_f m parent (l.take 250) slot)[j]!).slot))), Sp.eq (vif (!(!(decided_f m parent (((([] : List Vt) ++ mm.take 250) ++ l.take 250) ++ mm.take 250) ((outcomes_f m parent (l.take 250) slot)[j]!)))) (.int .i64 slot)), Sp.eq (vif (!(!(decided_f m parent (((([] : List Vt) ++ mm.take 250) ++ l.take 250) ++ mm.take 250) ((outcomes_f m parent (l.take 250) slot)[j]!)))) (.bool (!decide ((((outcomes_f m parent (l.take 250) slot)[j]!).slot) = slot)))), Sp.eq (.bool ((!(decided_f m parent (((([] : List Vt) ++ mm.take 250) ++ l.take 250) ++ mm.take 250) ((outcomes_f m parent (l.take 250) slot)[j]!))) || (!decide ((((outcomes_f m parent (l.take 250) slot)[j]!).slot) = slot))))] mixed (by rfl) (Obls.cons ?_ (Obls.cons ?_ (Obls.cons ?_ (Obls.cons ?_ (Obls.cons ?_ (Obls.cons ?_ (Obls.cons ?_ (Obls.cons ?_ (Obls.cons ?_ (Obls.cons ?_ (Obls.cons ?_ (Obls.cons ?_ (Obls.cons ?_ (Obls.cons ?_ (Obls.cons ?_ (Obls.cons ?_ (Obls.cons ?_ (Obls.cons ?_ Obls.nil)))))))))))))))))) ?_
      · intro f33 w33 hx33 ho33 hd33
        have d33_s0 : f33 0 = (.int .i64 m) := (ho33 0 rfl).trans s29_0
        exact D.val rfl (op_move rfl d33_s0)
      · intro f34 w34 hx34 ho34 hd34
        have d34_s6 : f34 6 = (.pointer (some ⟨b1, 0, none⟩)) := (ho34 6 rfl).trans s29_6
        have hR_l := hR_l.ext hx34
        have hR_mm := hR_mm.ext hx34
        have hB1 := hB1.ext hx34
        have hR2 := hR2.ext hx34
        have hR3 := hR3.ext hx34
        have hO8 := hO8.ext hx34
        have hR9 := hR9.ext hx34
        have hR21_8 := hR21_8.ext hx34
        have hR21_9 := hR21_9.ext hx34
        have hR27 := hR27.ext hx34
        have hR31 := hR31.ext hx34
        exact D.val rfl (op_load (v := (parent : Nm)) rfl d34_s6 ty24 hB1.cells)
      · intro f35 w35 hx35 ho35 hd35
        have d35_s11 : f35 11 = (.slice A31 (((([] : List Vt) ++ mm.take 250) ++ l.take 250) ++ mm.take 250).length c31) := (ho35 11 rfl).trans ((show _ = v8 from s29_11).trans hv31)
        exact D.val rfl (op_move rfl d35_s11)
      · intro f36 w36 hx36 ho36 hd36
        have d36_s15 : f36 15 = (.slice A27 (outcomes_f m parent (l.take 250) slot).length c27) := (ho36 15 rfl).trans s29_15
        exact D.val rfl (op_move rfl d36_s15)
      · intro f37 w37 hx37 ho37 hd37
        have d37_s16 : f37 16 = (.int .i64 ((j : Nat) : Int)) := (ho37 16 rfl).trans s29_16
        exact D.val rfl (op_move rfl d37_s16)
      · intro f38 w38 hx38 ho38 hd38
        have d38_3 : f38 63 = (.slice A27 (outcomes_f m parent (l.take 250) slot).length c27) := hd38 3 rfl
        have d38_4 : f38 64 = (.int .i64 ((j : Nat) : Int)) := hd38 4 rfl
        have hR_l := hR_l.ext hx38
        have hR_mm := hR_mm.ext hx38
        have hB1 := hB1.ext hx38
        have hR2 := hR2.ext hx38
        have hR3 := hR3.ext hx38
        have hO8 := hO8.ext hx38
        have hR9 := hR9.ext hx38
        have hR21_8 := hR21_8.ext hx38
        have hR21_9 := hR21_9.ext hx38
        have hR27 := hR27.ext hx38
        have hR31 := hR31.ext hx38
        skip
        exact D.val rfl (op_index (k := j) rfl d38_3 d38_4 sl37 (hR27.getA (get_bang (l := outcomes_f m parent (l.take 250) slot) (k := j) (by omega))).1 rfl (by omega) rfl)
      · intro f39 w39 hx39 ho39 hd39
        have d39_5 : f39 65 = (.pointer (some ((adr A27).add (j * 11)))) := hd39 5 rfl
        have hR_l := hR_l.ext hx39
        have hR_mm := hR_mm.ext hx39
        have hB1 := hB1.ext hx39
        have hR2 := hR2.ext hx39
        have hR3 := hR3.ext hx39
        have hO8 := hO8.ext hx39
        have hR9 := hR9.ext hx39
        have hR21_8 := hR21_8.ext hx39
        have hR21_9 := hR21_9.ext hx39
        have hR27 := hR27.ext hx39
        have hR31 := hR31.ext hx39
        skip
        exact D.val rfl (op_load (v := (outcomes_f m parent (l.take 250) slot)[j]!) rfl d39_5 ty49 (hR27.getA (get_bang (l := outcomes_f m parent (l.take 250) slot) (k := j) (by omega))).2)
      · intro f40 w40 hx40 ho40 hd40
        have d40_0 : f40 60 = (.int .i64 m) := hd40 0 rfl
        have d40_1 : f40 61 = (Enc.val (parent : Nm)) := hd40 1 rfl
        have d40_2 : f40 62 = (.slice A31 (((([] : List Vt) ++ mm.take 250) ++ l.take 250) ++ mm.take 250).length c31) := hd40 2 rfl
        have d40_6 : f40 66 = (Enc.val ((outcomes_f m parent (l.take 250) slot)[j]!)) := hd40 6 rfl
        have hR_l := hR_l.ext hx40
        have hR_mm := hR_mm.ext hx40
        have hB1 := hB1.ext hx40
        have hR2 := hR2.ext hx40
        have hR3 := hR3.ext hx40
        have hO8 := hO8.ext hx40
        have hR9 := hR9.ext hx40
        have hR21_8 := hR21_8.ext hx40
        have hR21_9 := hR21_9.ext hx40
        have hR27 := hR27.ext hx40
        have hR31 := hR31.ext hx40
        exact D.call (R := (Sp.eq (.bool (decided_f m parent (((([] : List Vt) ++ mm.take 250) ++ l.take 250) ++ mm.take 250) ((outcomes_f m parent (l.take 250) slot)[j]!)))).p) rfl (OpS.call (op_call rfl (argsC d40_0 (argsC d40_1 (argsC d40_2 (argsC d40_6 argsN)))) Try.func35 rfl rfl) (Decided_ok hR31 (by first | omega | (simp only [List.length_drop, List.length_take, List.length_append, List.length_cons, List.length_nil] at *; omega))))
      · intro f41 w41 hx41 ho41 hd41
        have d41_7 : f41 67 = (.bool (decided_f m parent (((([] : List Vt) ++ mm.take 250) ++ l.take 250) ++ mm.take 250) ((outcomes_f m parent (l.take 250) slot)[j]!))) := hd41 7 rfl
        exact D.val rfl (op_not rfl d41_7)
      · intro f42 w42 hx42 ho42 hd42
        have d42_8 : f42 68 = (.bool (!(decided_f m parent (((([] : List Vt) ++ mm.take 250) ++ l.take 250) ++ mm.take 250) ((outcomes_f m parent (l.take 250) slot)[j]!)))) := hd42 8 rfl
        exact D.val rfl (op_move rfl d42_8)
      · intro f43 w43 hx43 ho43 hd43
        have d43_s15 : f43 15 = (.slice A27 (outcomes_f m parent (l.take 250) slot).length c27) := (ho43 15 rfl).trans s29_15
        have d43_9 : f43 69 = (.bool (!(decided_f m parent (((([] : List Vt) ++ mm.take 250) ++ l.take 250) ++ mm.take 250) ((outcomes_f m parent (l.take 250) slot)[j]!)))) := hd43 9 rfl
        exact D.guardv (wanted_no rfl rfl d43_9) (fun hg => (op_move rfl d43_s15))
      · intro f44 w44 hx44 ho44 hd44
        have d44_s16 : f44 16 = (.int .i64 ((j : Nat) : Int)) := (ho44 16 rfl).trans s29_16
        have d44_9 : f44 69 = (.bool (!(decided_f m parent (((([] : List Vt) ++ mm.take 250) ++ l.take 250) ++ mm.take 250) ((outcomes_f m parent (l.take 250) slot)[j]!)))) := hd44 9 rfl
        exact D.guardv (wanted_no rfl rfl d44_9) (fun hg => (op_move rfl d44_s16))
      · intro f45 w45 hx45 ho45 hd45
        have d45_9 : f45 69 = (.bool (!(decided_f m parent (((([] : List Vt) ++ mm.take 250) ++ l.take 250) ++ mm.take 250) ((outcomes_f m parent (l.take 250) slot)[j]!)))) := hd45 9 rfl
        have d45_10 : f45 70 = (vif (!(!(decided_f m parent (((([] : List Vt) ++ mm.take 250) ++ l.take 250) ++ mm.take 250) ((outcomes_f m parent (l.take 250) slot)[j]!)))) (.slice A27 (outcomes_f m parent (l.take 250) slot).length c27)) := hd45 10 rfl
        have d45_11 : f45 71 = (vif (!(!(decided_f m parent (((([] : List Vt) ++ mm.take 250) ++ l.take 250) ++ mm.take 250) ((outcomes_f m parent (l.take 250) slot)[j]!)))) (.int .i64 ((j : Nat) : Int))) := hd45 11 rfl
        have hR_l := hR_l.ext hx45
        have hR_mm := hR_mm.ext hx45
        have hB1 := hB1.ext hx45
        have hR2 := hR2.ext hx45
        have hR3 := hR3.ext hx45
        have hO8 := hO8.ext hx45
        have hR9 := hR9.ext hx45
        have hR21_8 := hR21_8.ext hx45
        have hR21_9 := hR21_9.ext hx45
        have hR27 := hR27.ext hx45
        have hR31 := hR31.ext hx45
        exact D.guardv (wanted_no rfl rfl d45_9) (fun hg => by have hp := hg; simp only [Bool.and_eq_true, Bool.or_eq_true, Bool.not_eq_true', decide_eq_true_eq, decide_eq_false_iff_not, bne_iff_ne, beq_iff_eq] at hp; skip; exact (op_index (k := j) rfl ((show _ = vif _ (.slice A27 (outcomes_f m parent (l.take 250) slot).length c27) from d45_10).trans (vif_t hg).symm) ((show _ = vif _ (.int .i64 ((j : Nat) : Int)) from d45_11).trans (vif_t hg).symm) sl37 (hR27.getA (get_bang (l := outcomes_f m parent (l.take 250) slot) (k := j) (by omega))).1 rfl (by omega) rfl))
      · intro f46 w46 hx46 ho46 hd46
        have d46_9 : f46 69 = (.bool (!(decided_f m parent (((([] : List Vt) ++ mm.take 250) ++ l.take 250) ++ mm.take 250) ((outcomes_f m parent (l.take 250) slot)[j]!)))) := hd46 9 rfl
        have d46_12 : f46 72 = (vif (!(!(decided_f m parent (((([] : List Vt) ++ mm.take 250) ++ l.take 250) ++ mm.take 250) ((outcomes_f m parent (l.take 250) slot)[j]!)))) (.pointer (some ((adr A27).add (j * 11))))) := hd46 12 rfl
        exact D.guardv (wanted_no rfl rfl d46_9) (fun hg => (op_field rfl ((show _ = vif _ (.pointer (some ((adr A27).add (j * 11)))) from d46_12).trans (vif_t hg).symm) fo49_0 rfl))
      · intro f47 w47 hx47 ho47 hd47
        have d47_9 : f47 69 = (.bool (!(decided_f m parent (((([] : List Vt) ++ mm.take 250) ++ l.take 250) ++ mm.take 250) ((outcomes_f m parent (l.take 250) slot)[j]!)))) := hd47 9 rfl
        have d47_13 : f47 73 = (vif (!(!(decided_f m parent (((([] : List Vt) ++ mm.take 250) ++ l.take 250) ++ mm.take 250) ((outcomes_f m parent (l.take 250) slot)[j]!)))) (.pointer (some ((adr A27).add (j * 11))))) := hd47 13 rfl
        have hR_l := hR_l.ext hx47
        have hR_mm := hR_mm.ext hx47
        have hB1 := hB1.ext hx47
        have hR2 := hR2.ext hx47
        have hR3 := hR3.ext hx47
        have hO8 := hO8.ext hx47
        have hR9 := hR9.ext hx47
        have hR21_8 := hR21_8.ext hx47
        have hR21_9 := hR21_9.ext hx47
        have hR27 := hR27.ext hx47
        have hR31 := hR31.ext hx47
        exact D.guardv (wanted_no rfl rfl d47_9) (fun hg => by have hp := hg; simp only [Bool.and_eq_true, Bool.or_eq_true, Bool.not_eq_true', decide_eq_true_eq, decide_eq_false_iff_not, bne_iff_ne, beq_iff_eq] at hp; skip; exact (op_load1 rfl ((show _ = vif _ (.pointer (some ((adr A27).add (j * 11)))) from d47_13).trans (vif_t hg).symm) one3 ((hR27.getA (get_bang (l := outcomes_f m parent (l.take 250) slot) (k := j) (by omega))).2.one (n := 0) rfl)))
      · intro f48 w48 hx48 ho48 hd48
        have d48_s4 : f48 4 = (.int .i64 slot) := (ho48 4 rfl).trans s29_4
        have d48_9 : f48 69 = (.bool (!(decided_f m parent (((([] : List Vt) ++ mm.take 250) ++ l.take 250) ++ mm.take 250) ((outcomes_f m parent (l.take 250) slot)[j]!)))) := hd48 9 rfl
        exact D.guardv (wanted_no rfl rfl d48_9) (fun hg => (op_move rfl d48_s4))
      · intro f49 w49 hx49 ho49 hd49
        have d49_9 : f49 69 = (.bool (!(decided_f m parent (((([] : List Vt) ++ mm.take 250) ++ l.take 250) ++ mm.take 250) ((outcomes_f m parent (l.take 250) slot)[j]!)))) := hd49 9 rfl
        have d49_14 : f49 74 = (vif (!(!(decided_f m parent (((([] : List Vt) ++ mm.take 250) ++ l.take 250) ++ mm.take 250) ((outcomes_f m parent (l.take 250) slot)[j]!)))) (.int .i64 (((outcomes_f m parent (l.take 250) slot)[j]!).slot))) := hd49 14 rfl
        have d49_15 : f49 75 = (vif (!(!(decided_f m parent (((([] : List Vt) ++ mm.take 250) ++ l.take 250) ++ mm.take 250) ((outcomes_f m parent (l.take 250) slot)[j]!)))) (.int .i64 slot)) := hd49 15 rfl
        exact D.guardv (wanted_no rfl rfl d49_9) (fun hg => (op_neq rfl ((show _ = vif _ (.int .i64 (((outcomes_f m parent (l.take 250) slot)[j]!).slot)) from d49_14).trans (vif_t hg).symm) ((show _ = vif _ (.int .i64 slot) from d49_15).trans (vif_t hg).symm)))
      · intro f50 w50 hx50 ho50 hd50
        have d50_9 : f50 69 = (.bool (!(decided_f m parent (((([] : List Vt) ++ mm.take 250) ++ l.take 250) ++ mm.take 250) ((outcomes_f m parent (l.take 250) slot)[j]!)))) := hd50 9 rfl
        have d50_16 : f50 76 = (vif (!(!(decided_f m parent (((([] : List Vt) ++ mm.take 250) ++ l.take 250) ++ mm.take 250) ((outcomes_f m parent (l.take 250) slot)[j]!)))) (.bool (!decide ((((outcomes_f m parent (l.take 250) slot)[j]!).slot) = slot)))) := hd50 16 rfl
        exact D.val rfl (op_or rfl d50_9 rfl d50_16)
      intro f51 w51 hx51 ho51 hr51
      have s0 : f51 0 = (.int .i64 m) := (ho51 0 rfl).trans s29_0
      have s2 : f51 2 = (.slice A2 (l.take 250).length c2) := (ho51 2 rfl).trans s29_2
      have s3 : f51 3 = (.slice A3 (mm.take 250).length c3) := (ho51 3 rfl).trans s29_3
      have s4 : f51 4 = (.int .i64 slot) := (ho51 4 rfl).trans s29_4
      have s6 : f51 6 = (.pointer (some ⟨b1, 0, none⟩)) := (ho51 6 rfl).trans s29_6
      have s11 : f51 11 = (.slice A31 (((([] : List Vt) ++ mm.take 250) ++ l.take 250) ++ mm.take 250).length c31) := (ho51 11 rfl).trans ((show _ = v8 from s29_11).trans hv31)
      have s13 : f51 13 = (.slice A21_9 (accepted_f m parent (((([] : List Vt) ++ mm.take 250) ++ l.take 250) ++ mm.take 250)).length c21_9) := (ho51 13 rfl).trans s29_13
      have s15 : f51 15 = (.slice A27 (outcomes_f m parent (l.take 250) slot).length c27) := (ho51 15 rfl).trans s29_15
      have s16 : f51 16 = (.int .i64 ((j : Nat) : Int)) := (ho51 16 rfl).trans s29_16
      have s57 : f51 57 = (.bool (decide (((j : Nat) : Int) < ((outcomes_f m parent (l.take 250) slot).length : Int)))) := ho51 57 rfl
      have s77 : f51 77 = (.bool ((!(decided_f m parent (((([] : List Vt) ++ mm.take 250) ++ l.take 250) ++ mm.take 250) ((outcomes_f m parent (l.take 250) slot)[j]!))) || (!decide ((((outcomes_f m parent (l.take 250) slot)[j]!).slot) = slot)))) := hr51 17 (by decide)
      have hE := hE.trans hx51
      have hS4 := hS4.trans hx51
      have hS22 := hS22.trans hx51
      have hS28 := hS28.trans hx51
      have hR_l := hR_l.ext hx51
      have hR_mm := hR_mm.ext hx51
      have hB1 := hB1.ext hx51
      have hR2 := hR2.ext hx51
      have hR3 := hR3.ext hx51
      have hO8 := hO8.ext hx51
      have hR9 := hR9.ext hx51
      have hR21_8 := hR21_8.ext hx51
      have hR21_9 := hR21_9.ext hx51
      have hR27 := hR27.ext hx51
      have hR31 := hR31.ext hx51
      refine thenF_nor ?_
      refine W.cond (t := (!(decided_f m parent (((([] : List Vt) ++ mm.take 250) ++ l.take 250) ++ mm.take 250) ((outcomes_f m parent (l.take 250) slot)[j]!))) || (!decide ((((outcomes_f m parent (l.take 250) slot)[j]!).slot) = slot))) s77 (fun hc52 => ?_) (fun hc52 => ?_)
      · have hp52 := hc52
        simp only [Bool.and_eq_true, Bool.or_eq_true, Bool.and_eq_false_iff, Bool.or_eq_false_iff, Bool.not_eq_true', Bool.not_eq_false', decide_eq_true_eq, decide_eq_false_iff_not] at hp52
        exact absurd hc52 (by rw [grows2 m parent (l.take 250) (mm.take 250) slot j (by omega)]; simp)
      · have hp52 := hc52
        simp only [Bool.and_eq_true, Bool.or_eq_true, Bool.and_eq_false_iff, Bool.or_eq_false_iff, Bool.not_eq_true', Bool.not_eq_false', decide_eq_true_eq, decide_eq_false_iff_not] at hp52
        refine W.skip ?_
        refine blockF_nor ?_
        refine thenF_nor ?_
        refine W.region (by rfl) ?_
        refine L.val rfl (op_move rfl s16) ?_
        refine L.val rfl (op_add (c := ((j + 1 : Nat) : Int)) rfl rfl rfl (by omega) (by omega)) ?_
        refine L.val rfl (op_assign rfl rfl) ?_
        refine L.nil ?_
        refine thenF_nor ?_
        exact ⟨j + 1, ⟨(by (try dsimp only); omega), s0, s2, s3, s4, s6, (s11.trans hv31.symm), s13, s15, rfl, hS28⟩, (by (try dsimp only); omega)⟩
    · have hp30 := hc30
      simp only [Bool.and_eq_true, Bool.or_eq_true, Bool.and_eq_false_iff, Bool.or_eq_false_iff, Bool.not_eq_true', Bool.not_eq_false', decide_eq_true_eq, decide_eq_false_iff_not] at hp30
      refine W.exit ?_
      refine thenF_exit ?_
      refine thenF_exit ?_
      refine blockF_hit ?_
      refine thenF_nor ?_
      refine W.seq ?_
      refine W.drawA [2, 4, 6, 7, 9, 10, 11, 12, 13] [[], [(2, Sp.own w29.heap.size 28 (([] : List Vt) : List Vt))], [(4, Sp.own w29.heap.size 28 ((([] : List Vt) ++ l.take 250) : List Vt))], [(6, Sp.own w29.heap.size 28 (((([] : List Vt) ++ l.take 250) ++ mm.take 250) : List Vt))], [(7, Sp.slr (accepted_f m parent ((([] : List Vt) ++ l.take 250) ++ mm.take 250) : List Vt)), (6, Sp.own w29.heap.size 28 (((([] : List Vt) ++ l.take 250) ++ mm.take 250) : List Vt))], [(9, Sp.eq (.bool (decide (accepted_f m parent ((([] : List Vt) ++ l.take 250) ++ mm.take 250) = accepted_f m parent (((([] : List Vt) ++ mm.take 250) ++ l.take 250) ++ mm.take 250))))), (7, Sp.slr (accepted_f m parent ((([] : List Vt) ++ l.take 250) ++ mm.take 250) : List Vt)), (6, Sp.own w29.heap.size 28 (((([] : List Vt) ++ l.take 250) ++ mm.take 250) : List Vt))], [(10, Sp.eq (.bool (decide (accepted_f m parent ((([] : List Vt) ++ l.take 250) ++ mm.take 250) = accepted_f m parent (((([] : List Vt) ++ mm.take 250) ++ l.take 250) ++ mm.take 250))))), (9, Sp.eq (.bool (decide (accepted_f m parent ((([] : List Vt) ++ l.take 250) ++ mm.take 250) = accepted_f m parent (((([] : List Vt) ++ mm.take 250) ++ l.take 250) ++ mm.take 250))))), (7, Sp.slr (accepted_f m parent ((([] : List Vt) ++ l.take 250) ++ mm.take 250) : List Vt)), (6, Sp.own w29.heap.size 28 (((([] : List Vt) ++ l.take 250) ++ mm.take 250) : List Vt))], [(11, Sp.eq (vif (decide (accepted_f m parent ((([] : List Vt) ++ l.take 250) ++ mm.take 250) = accepted_f m parent (((([] : List Vt) ++ mm.take 250) ++ l.take 250) ++ mm.take 250))) (.bool true))), (10, Sp.eq (.bool (decide (accepted_f m parent ((([] : List Vt) ++ l.take 250) ++ mm.take 250) = accepted_f m parent (((([] : List Vt) ++ mm.take 250) ++ l.take 250) ++ mm.take 250))))), (9, Sp.eq (.bool (decide (accepted_f m parent ((([] : List Vt) ++ l.take 250) ++ mm.take 250) = accepted_f m parent (((([] : List Vt) ++ mm.take 250) ++ l.take 250) ++ mm.take 250))))), (7, Sp.slr (accepted_f m parent ((([] : List Vt) ++ l.take 250) ++ mm.take 250) : List Vt)), (6, Sp.own w29.heap.size 28 (((([] : List Vt) ++ l.take 250) ++ mm.take 250) : List Vt))], [(12, Sp.eq (.bool ((decide (accepted_f m parent ((([] : List Vt) ++ l.take 250) ++ mm.take 250) = accepted_f m parent (((([] : List Vt) ++ mm.take 250) ++ l.take 250) ++ mm.take 250))) && true))), (11, Sp.eq (vif (decide (accepted_f m parent ((([] : List Vt) ++ l.take 250) ++ mm.take 250) = accepted_f m parent (((([] : List Vt) ++ mm.take 250) ++ l.take 250) ++ mm.take 250))) (.bool true))), (10, Sp.eq (.bool (decide (accepted_f m parent ((([] : List Vt) ++ l.take 250) ++ mm.take 250) = accepted_f m parent (((([] : List Vt) ++ mm.take 250) ++ l.take 250) ++ mm.take 250))))), (9, Sp.eq (.bool (decide (accepted_f m parent ((([] : List Vt) ++ l.take 250) ++ mm.take 250) = accepted_f m parent (((([] : List Vt) ++ mm.take 250) ++ l.take 250) ++ mm.take 250))))), (7, Sp.slr (accepted_f m parent ((([] : List Vt) ++ l.take 250) ++ mm.take 250) : List Vt)), (6, Sp.own w29.heap.size 28 (((([] : List Vt) ++ l.take 250) ++ mm.take 250) : List Vt))], [(13, Sp.eq (.bool ((decide (accepted_f m parent ((([] : List Vt) ++ l.take 250) ++ mm.take 250) = accepted_f m parent (((([] : List Vt) ++ mm.take 250) ++ l.take 250) ++ mm.take 250))) && true))), (12, Sp.eq (.bool ((decide (accepted_f m parent ((([] : List Vt) ++ l.take 250) ++ mm.take 250) = accepted_f m parent (((([] : List Vt) ++ mm.take 250) ++ l.take 250) ++ mm.take 250))) && true))), (11, Sp.eq (vif (decide (accepted_f m parent ((([] : List Vt) ++ l.take 250) ++ mm.take 250) = accepted_f m parent (((([] : List Vt) ++ mm.take 250) ++ l.take 250) ++ mm.take 250))) (.bool true))), (10, Sp.eq (.bool (decide (accepted_f m parent ((([] : List Vt) ++ l.take 250) ++ mm.take 250) = accepted_f m parent (((([] : List Vt) ++ mm.take 250) ++ l.take 250) ++ mm.take 250))))), (9, Sp.eq (.bool (decide (accepted_f m parent ((([] : List Vt) ++ l.take 250) ++ mm.take 250) = accepted_f m parent (((([] : List Vt) ++ mm.take 250) ++ l.take 250) ++ mm.take 250))))), (7, Sp.slr (accepted_f m parent ((([] : List Vt) ++ l.take 250) ++ mm.take 250) : List Vt)), (6, Sp.own w29.heap.size 28 (((([] : List Vt) ++ l.take 250) ++ mm.take 250) : List Vt))]] [(.int .i64 m), (Enc.val (parent : Nm)), undef, (.slice A2 (l.take 250).length c2), undef, (.slice A3 (mm.take 250).length c3), undef, undef, (.slice A21_9 (accepted_f m parent (((([] : List Vt) ++ mm.take 250) ++ l.take 250) ++ mm.take 250)).length c21_9), undef, undef, undef, undef, undef] mixed (by rfl) rfl ?_ ?_ ?_
      · refine VObls.cons ?_ (VObls.cons ?_ (VObls.cons (fun h => nomatch h) (VObls.cons ?_ (VObls.cons (fun h => nomatch h) (VObls.cons ?_ (VObls.cons (fun h => nomatch h) (VObls.cons (fun h => nomatch h) (VObls.cons ?_ (VObls.cons (fun h => nomatch h) (VObls.cons (fun h => nomatch h) (VObls.cons (fun h => nomatch h) (VObls.cons (fun h => nomatch h) (VObls.cons (fun h => nomatch h) (VObls.nil))))))))))))))
        · intro _ f53 w53 hx53 ho53 hd53
          have d53_s0 : f53 0 = (.int .i64 m) := (ho53 0 rfl).trans s29_0
          exact ⟨rfl, (op_move rfl d53_s0), rfl⟩
        · intro _ f54 w54 hx54 ho54 hd54
          have d54_s6 : f54 6 = (.pointer (some ⟨b1, 0, none⟩)) := (ho54 6 rfl).trans s29_6
          have hR_l := hR_l.ext hx54
          have hR_mm := hR_mm.ext hx54
          have hB1 := hB1.ext hx54
          have hR2 := hR2.ext hx54
          have hR3 := hR3.ext hx54
          have hO8 := hO8.ext hx54
          have hR9 := hR9.ext hx54
          have hR21_8 := hR21_8.ext hx54
          have hR21_9 := hR21_9.ext hx54
          have hR27 := hR27.ext hx54
          exact ⟨rfl, (op_load (v := (parent : Nm)) rfl d54_s6 ty24 hB1.cells), rfl⟩
        · intro _ f56 w56 hx56 ho56 hd56
          have d56_s2 : f56 2 = (.slice A2 (l.take 250).length c2) := (ho56 2 rfl).trans s29_2
          exact ⟨rfl, (op_move rfl d56_s2), rfl⟩
        · intro _ f58 w58 hx58 ho58 hd58
          have d58_s3 : f58 3 = (.slice A3 (mm.take 250).length c3) := (ho58 3 rfl).trans s29_3
          exact ⟨rfl, (op_move rfl d58_s3), rfl⟩
        · intro _ f61 w61 hx61 ho61 hd61
          have d61_s13 : f61 13 = (.slice A21_9 (accepted_f m parent (((([] : List Vt) ++ mm.take 250) ++ l.take 250) ++ mm.take 250)).length c21_9) := (ho61 13 rfl).trans s29_13
          exact ⟨rfl, (op_move rfl d61_s13), rfl⟩
      · refine CObls.cons ?_ (CObls.cons ?_ (CObls.cons ?_ (CObls.cons ?_ (CObls.cons ?_ (CObls.cons ?_ (CObls.cons ?_ (CObls.cons ?_ (CObls.cons ?_ (CObls.nil)))))))))
        · intro o ho
          obtain rfl := Option.some.inj (ho : some _ = some o)
          intro f55 w55 hx55 ho55 hd55 hs55
          exact chain_ext (sp := Sp.own w29.heap.size 28 ([] : List Vt)) hx55 (show stageOk _ _ _ from hs55) rfl (op_slice0 Vt w29.heap.size hx55.size rfl sl25) rfl
        · intro o ho
          obtain rfl := Option.some.inj (ho : some _ = some o)
          intro f57 w57 hx57 ho57 hd57 hs57
          obtain ⟨c57_2, _⟩ := hs57
          have q57_2 : Fk.Own w57 w29.heap.size 28 (f57 80) ([] : List Vt) := c57_2
          have d57_3 : f57 81 = (.slice A2 (l.take 250).length c2) := hd57 3 rfl rfl
          have hR_l := hR_l.ext hx57
          have hR_mm := hR_mm.ext hx57
          have hB1 := hB1.ext hx57
          have hR2 := hR2.ext hx57
          have hR3 := hR3.ext hx57
          have hO8 := hO8.ext hx57
          have hR9 := hR9.ext hx57
          have hR21_8 := hR21_8.ext hx57
          have hR21_9 := hR21_9.ext hx57
          have hR27 := hR27.ext hx57
          exact chain_app (l2 := ((([] : List Vt) ++ l.take 250) : List Vt)) hx57 rfl q57_2 (op_appendN (l2 := l.take 250) rfl rfl d57_3 sl25 zs28 bt28 q57_2 hR2 (by simp only [List.length_append, List.length_take, List.length_cons, List.length_nil] at *; omega) (by decide) hx57.size)
        · intro o ho
          obtain rfl := Option.some.inj (ho : some _ = some o)
          intro f59 w59 hx59 ho59 hd59 hs59
          obtain ⟨c59_4, _⟩ := hs59
          have q59_4 : Fk.Own w59 w29.heap.size 28 (f59 82) (([] : List Vt) ++ l.take 250) := c59_4
          have d59_5 : f59 83 = (.slice A3 (mm.take 250).length c3) := hd59 5 rfl rfl
          have hR_l := hR_l.ext hx59
          have hR_mm := hR_mm.ext hx59
          have hB1 := hB1.ext hx59
          have hR2 := hR2.ext hx59
          have hR3 := hR3.ext hx59
          have hO8 := hO8.ext hx59
          have hR9 := hR9.ext hx59
          have hR21_8 := hR21_8.ext hx59
          have hR21_9 := hR21_9.ext hx59
          have hR27 := hR27.ext hx59
          exact chain_app (l2 := (((([] : List Vt) ++ l.take 250) ++ mm.take 250) : List Vt)) hx59 rfl q59_4 (op_appendN (l2 := mm.take 250) rfl rfl d59_5 sl25 zs28 bt28 q59_4 hR3 (by simp only [List.length_append, List.length_take, List.length_cons, List.length_nil] at *; omega) (by decide) hx59.size)
        · intro o ho
          obtain rfl := Option.some.inj (ho : some _ = some o)
          intro f60 w60 hx60 ho60 hd60 hs60
          obtain ⟨c60_6, _⟩ := hs60
          have d60_0 : f60 78 = (.int .i64 m) := hd60 0 rfl rfl
          have d60_1 : f60 79 = (Enc.val (parent : Nm)) := hd60 1 rfl rfl
          have q60_6 : Fk.Own w60 w29.heap.size 28 (f60 84) ((([] : List Vt) ++ l.take 250) ++ mm.take 250) := c60_6
          obtain ⟨A60_6, k60_6, e60_6, hR60_6, hcap60_6⟩ := (id q60_6).form
          have hlen60_6 := hR60_6.len
          have hR_l := hR_l.ext hx60
          have hR_mm := hR_mm.ext hx60
          have hB1 := hB1.ext hx60
          have hR2 := hR2.ext hx60
          have hR3 := hR3.ext hx60
          have hO8 := hO8.ext hx60
          have hR9 := hR9.ext hx60
          have hR21_8 := hR21_8.ext hx60
          have hR21_9 := hR21_9.ext hx60
          have hR27 := hR27.ext hx60
          exact chain_ext (sp := Sp.slr (accepted_f m parent ((([] : List Vt) ++ l.take 250) ++ mm.take 250) : List Vt)) hx60 (show stageOk _ _ _ from ⟨c60_6, trivial⟩) rfl (OpS.call (op_call rfl (argsC d60_0 (argsC d60_1 (argsC e60_6 argsN))) Try.func18 rfl rfl) (Accepted_ok hR60_6 (by first | omega | (simp only [List.length_drop, List.length_take, List.length_append, List.length_cons, List.length_nil] at *; omega)))) rfl
        · intro o ho
          obtain rfl := Option.some.inj (ho : some _ = some o)
          intro f62 w62 hx62 ho62 hd62 hs62
          obtain ⟨c62_7, c62_6, _⟩ := hs62
          obtain ⟨A62_7, k62_7, lo62_7, hi62_7, e62_7, hcap62_7, hR62_7⟩ := id c62_7
          have hlen62_7 := hR62_7.len
          have d62_8 : f62 86 = (.slice A21_9 (accepted_f m parent (((([] : List Vt) ++ mm.take 250) ++ l.take 250) ++ mm.take 250)).length c21_9) := hd62 8 rfl rfl
          have hR_l := hR_l.ext hx62
          have hR_mm := hR_mm.ext hx62
          have hB1 := hB1.ext hx62
          have hR2 := hR2.ext hx62
          have hR3 := hR3.ext hx62
          have hO8 := hO8.ext hx62
          have hR9 := hR9.ext hx62
          have hR21_8 := hR21_8.ext hx62
          have hR21_9 := hR21_9.ext hx62
          have hR27 := hR27.ext hx62
          exact chain_ext (sp := Sp.eq (.bool (decide (accepted_f m parent ((([] : List Vt) ++ l.take 250) ++ mm.take 250) = accepted_f m parent (((([] : List Vt) ++ mm.take 250) ++ l.take 250) ++ mm.take 250))))) hx62 (show stageOk _ _ _ from ⟨c62_7, c62_6, trivial⟩) rfl (OpS.call (op_call rfl (argsC e62_7 (argsC d62_8 argsN)) Try.func22 rfl rfl) (same12_ok hR62_7 hR21_9)) rfl
        · intro o ho
          obtain rfl := Option.some.inj (ho : some _ = some o)
          intro f63 w63 hx63 ho63 hd63 hs63
          obtain ⟨c63_9, c63_7, c63_6, _⟩ := hs63
          have d63_9 : f63 87 = (.bool (decide (accepted_f m parent ((([] : List Vt) ++ l.take 250) ++ mm.take 250) = accepted_f m parent (((([] : List Vt) ++ mm.take 250) ++ l.take 250) ++ mm.take 250)))) := c63_9
          exact chain_val (v := (.bool (decide (accepted_f m parent ((([] : List Vt) ++ l.take 250) ++ mm.take 250) = accepted_f m parent (((([] : List Vt) ++ mm.take 250) ++ l.take 250) ++ mm.take 250))))) hx63 (show stageOk _ _ _ from ⟨c63_9, c63_7, c63_6, trivial⟩) rfl (op_move rfl d63_9) rfl
        · intro o ho
          obtain rfl := Option.some.inj (ho : some _ = some o)
          intro f64 w64 hx64 ho64 hd64 hs64
          obtain ⟨c64_10, c64_9, c64_7, c64_6, _⟩ := hs64
          have d64_10 : f64 88 = (.bool (decide (accepted_f m parent ((([] : List Vt) ++ l.take 250) ++ mm.take 250) = accepted_f m parent (((([] : List Vt) ++ mm.take 250) ++ l.take 250) ++ mm.take 250)))) := c64_10
          have hR_l := hR_l.ext hx64
          have hR_mm := hR_mm.ext hx64
          have hB1 := hB1.ext hx64
          have hR2 := hR2.ext hx64
          have hR3 := hR3.ext hx64
          have hO8 := hO8.ext hx64
          have hR9 := hR9.ext hx64
          have hR21_8 := hR21_8.ext hx64
          have hR21_9 := hR21_9.ext hx64
          have hR27 := hR27.ext hx64
          exact chain_guard (v := (.bool true)) hx64 (show stageOk _ _ _ from ⟨c64_10, c64_9, c64_7, c64_6, trivial⟩) (wanted_yes rfl rfl d64_10) (fun hg => (OpS.call (op_call rfl argsN Try.func23 rfl rfl) awake12_ok)) rfl
        · intro o ho
          obtain rfl := Option.some.inj (ho : some _ = some o)
          intro f65 w65 hx65 ho65 hd65 hs65
          obtain ⟨c65_11, c65_10, c65_9, c65_7, c65_6, _⟩ := hs65
          have d65_10 : f65 88 = (.bool (decide (accepted_f m parent ((([] : List Vt) ++ l.take 250) ++ mm.take 250) = accepted_f m parent (((([] : List Vt) ++ mm.take 250) ++ l.take 250) ++ mm.take 250)))) := c65_10
          have d65_11 : f65 89 = (vif (decide (accepted_f m parent ((([] : List Vt) ++ l.take 250) ++ mm.take 250) = accepted_f m parent (((([] : List Vt) ++ mm.take 250) ++ l.take 250) ++ mm.take 250))) (.bool true)) := c65_11
          exact chain_val (v := (.bool ((decide (accepted_f m parent ((([] : List Vt) ++ l.take 250) ++ mm.take 250) = accepted_f m parent (((([] : List Vt) ++ mm.take 250) ++ l.take 250) ++ mm.take 250))) && true))) hx65 (show stageOk _ _ _ from ⟨c65_11, c65_10, c65_9, c65_7, c65_6, trivial⟩) rfl (op_and rfl d65_10 d65_11 rfl) rfl
        · intro o ho
          obtain rfl := Option.some.inj (ho : some _ = some o)
          intro f66 w66 hx66 ho66 hd66 hs66
          obtain ⟨c66_12, c66_11, c66_10, c66_9, c66_7, c66_6, _⟩ := hs66
          have d66_12 : f66 90 = (.bool ((decide (accepted_f m parent ((([] : List Vt) ++ l.take 250) ++ mm.take 250) = accepted_f m parent (((([] : List Vt) ++ mm.take 250) ++ l.take 250) ++ mm.take 250))) && true)) := c66_12
          exact chain_val (v := (.bool ((decide (accepted_f m parent ((([] : List Vt) ++ l.take 250) ++ mm.take 250) = accepted_f m parent (((([] : List Vt) ++ mm.take 250) ++ l.take 250) ++ mm.take 250))) && true))) hx66 (show stageOk _ _ _ from ⟨c66_12, c66_11, c66_10, c66_9, c66_7, c66_6, trivial⟩) rfl (op_assign rfl d66_12) rfl
      intro f67 w67 hx67 ho67 hr67 hs67
      obtain ⟨c67_13, c67_12, c67_11, c67_10, c67_9, c67_7, c67_6, _⟩ := hs67
      have s0 : f67 0 = (.int .i64 m) := (ho67 0 rfl).trans s29_0
      have s2 : f67 2 = (.slice A2 (l.take 250).length c2) := (ho67 2 rfl).trans s29_2
      have s3 : f67 3 = (.slice A3 (mm.take 250).length c3) := (ho67 3 rfl).trans s29_3
      have s4 : f67 4 = (.int .i64 slot) := (ho67 4 rfl).trans s29_4
      have s6 : f67 6 = (.pointer (some ⟨b1, 0, none⟩)) := (ho67 6 rfl).trans s29_6
      have s11 : f67 11 = v8 := (ho67 11 rfl).trans s29_11
      have s13 : f67 13 = (.slice A21_9 (accepted_f m parent (((([] : List Vt) ++ mm.take 250) ++ l.take 250) ++ mm.take 250)).length c21_9) := (ho67 13 rfl).trans s29_13
      have s15 : f67 15 = (.slice A27 (outcomes_f m parent (l.take 250) slot).length c27) := (ho67 15 rfl).trans s29_15
      have s16 : f67 16 = (.int .i64 ((j : Nat) : Int)) := (ho67 16 rfl).trans s29_16
      have s57 : f67 57 = (.bool (decide (((j : Nat) : Int) < ((outcomes_f m parent (l.take 250) slot).length : Int)))) := ho67 57 rfl
      have hE := hE.trans hx67
      have hS4 := hS4.trans hx67
      have hS22 := hS22.trans hx67
      have hS28 := hS28.trans hx67
      have hR_l := hR_l.ext hx67
      have hR_mm := hR_mm.ext hx67
      have hB1 := hB1.ext hx67
      have hR2 := hR2.ext hx67
      have hR3 := hR3.ext hx67
      have hO8 := hO8.ext hx67
      have hR9 := hR9.ext hx67
      have hR21_8 := hR21_8.ext hx67
      have hR21_9 := hR21_9.ext hx67
      have hR27 := hR27.ext hx67
      have s10 : f67 10 = (.bool ((decide (accepted_f m parent ((([] : List Vt) ++ l.take 250) ++ mm.take 250) = accepted_f m parent (((([] : List Vt) ++ mm.take 250) ++ l.take 250) ++ mm.take 250))) && true)) := c67_13
      refine thenF_nor ?_
      refine W.ret ?_
      exact end_ret1 (v := (.bool ((decide (accepted_f m parent ((([] : List Vt) ++ l.take 250) ++ mm.take 250) = accepted_f m parent (((([] : List Vt) ++ mm.take 250) ++ l.take 250) ++ mm.take 250))) && true))) rfl s10 ⟨(by rw [grows3 m parent (l.take 250) (mm.take 250)]; rfl), hE⟩

end Go.Proofs.Ytdknjfmjddlphaa
