/-
  Contracts of functions of the program, each with its walk in the logic of frames. Printed by a program of this session (wip/gen) from the translation.
-/
import Derived.Test.YtdknjfmjddlphaaG10
set_option linter.unusedSimpArgs false
set_option linter.unusedVariables false
namespace Go.Proofs.Ytdknjfmjddlphaa
open Go Go.Fk

set_option maxRecDepth 100000 in
set_option maxHeartbeats 4000000 in
theorem AcceptApart_ok {m : Int} {parent : Nm} {A_l : Option Addr} {c_l lo_l hi_l : Nat} {l : List Vt} {slot : Int}  {w : World} (hR_l : Rd w lo_l hi_l A_l l) (hcap_l : l.length ≤ c_l) : Gives Try.prog 5 #[(.int .i64 m), (Enc.val (parent : Nm)), (.slice A_l l.length c_l), (.int .i64 slot)] w fun u w' => u = (.bool true) ∧ Ext w w' := by
  have hE : Ext w w := Ext.refl w
  have hlen_l := hR_l.len
  refine gives_of_W Try.func5 rfl Try.ntmps5 rfl ?_
  have htl : (l.take 250).length ≤ 250 := List.length_take_le _ _
  refine W.seq ?_
  refine W.region (by rfl) ?_
  refine L.step rfl (op_box (cs := (Enc.cells (parent : Nm))) rfl rfl rfl) ?_
  rintro _ w1 ⟨b1, rfl, hb1, hB1, hx1⟩
  have hE := hE.trans hx1
  have hR_l := hR_l.ext hx1
  refine L.val (v := (.bool false)) rfl (op_assign rfl rfl) ?_
  refine L.nil ?_
  refine thenF_nor ?_
  refine W.seq ?_
  refine W.region (by rfl) ?_
  refine L.val rfl (op_move rfl rfl) ?_
  refine L.step rfl (OpS.call (op_call rfl (argsC rfl argsN) Try.func24 rfl rfl) (cut12_ok hR_l hcap_l)) ?_
  rintro _ w2 ⟨⟨A2, c2, lo2, hi2, rfl, hcap2, hR2⟩, hx2⟩
  have hE := hE.trans hx2
  have hR_l := hR_l.ext hx2
  have hB1 := hB1.ext hx2
  have hlen2 := hR2.len
  refine L.val rfl (op_assign rfl rfl) ?_
  refine L.nil ?_
  refine thenF_nor ?_
  refine W.seq ?_
  refine W.region (by rfl) ?_
  refine L.val rfl (op_assign rfl rfl) ?_
  refine L.nil ?_
  refine thenF_nor ?_
  refine W.seq ?_
  refine W.seq ?_
  refine W.region (by rfl) ?_
  refine L.val rfl (op_assign rfl rfl) ?_
  refine L.nil ?_
  refine thenF_nor ?_
  refine W.block ?_
  have S3_hR_l := hR_l
  have S3_hB1 := hB1
  have S3_hR2 := hR2
  have S3_hE := hE
  have hS3 : Ext w2 w2 := Ext.refl _
  refine W.loopg (γ := Nat) (fun (k : Nat) (f : Fr) (ww : World) => k ≤ (l.take 250).length ∧ f 0 = (.int .i64 m) ∧ f 2 = (.slice A2 (l.take 250).length c2) ∧ f 3 = (.int .i64 slot) ∧ f 5 = (.pointer (some ⟨b1, 0, none⟩)) ∧ f 8 = (.bool false) ∧ f 10 = (.int .i64 ((k : Nat) : Int)) ∧ Fk.Own ww w2.heap.size 28 (f 9) (((l.take 250).take k).filter (fun x => (decide (x.slot = slot) && decide (x.parent = parent)) && decide (x.kind ≤ 4))) ∧ Ext w2 ww) (fun (k : Nat) => (l.take 250).length - k) 0 ⟨(by (try dsimp only); omega), rfl, rfl, rfl, rfl, rfl, rfl, (own_at (v := .slice none 0 0) rfl (Fk.Own.nil _ _ _)), hS3⟩ ?_
  rintro k f4 w4 ⟨hk, s4_0, s4_2, s4_3, s4_5, s4_8, s4_10, hO4_9, hS3⟩
  have hR_l := S3_hR_l.ext hS3
  have hB1 := S3_hB1.ext hS3
  have hR2 := S3_hR2.ext hS3
  have hE := S3_hE.trans hS3
  obtain ⟨v4_9, s4_9⟩ : ∃ v, f4 9 = v := ⟨_, rfl⟩
  rw [s4_9] at hO4_9
  have hfl := List.length_filter_le (fun x => (decide (x.slot = slot) && decide (x.parent = parent)) && decide (x.kind ≤ 4)) ((l.take 250).take k)
  have htl2 := List.length_take_le' k (l.take 250)
  refine W.seq ?_
  refine W.seq ?_
  refine W.region (by rfl) ?_
  refine L.val rfl (op_move rfl s4_10) ?_
  refine L.val rfl (op_move rfl s4_2) ?_
  refine L.val rfl (op_len rfl rfl ln25) ?_
  refine L.val rfl (op_lss rfl rfl rfl) ?_
  refine L.nil ?_
  refine thenF_nor ?_
  refine W.cond (t := decide (((k : Nat) : Int) < ((l.take 250).length : Int))) rfl (fun hc5 => ?_) (fun hc5 => ?_)
  · have hp5 := hc5
    simp only [Bool.and_eq_true, Bool.or_eq_true, Bool.and_eq_false_iff, Bool.or_eq_false_iff, Bool.not_eq_true', Bool.not_eq_false', decide_eq_true_eq, decide_eq_false_iff_not] at hp5
    refine W.skip ?_
    refine thenF_nor ?_
    refine W.seq ?_
    refine W.block ?_
    refine W.seq ?_
    refine W.drawS [Sp.eq (.slice A2 (l.take 250).length c2), Sp.eq (.int .i64 ((k : Nat) : Int)), Sp.eq (.pointer (some ((adr A2).add (k * 22)))), Sp.eq (.pointer (some (((adr A2).add (k * 22)).add 1))), Sp.eq (.int .i64 (((l.take 250)[k]!).slot)), Sp.eq (.int .i64 slot), Sp.eq (.bool (decide ((((l.take 250)[k]!).slot) = slot))), Sp.eq (.bool (decide ((((l.take 250)[k]!).slot) = slot))), Sp.eq (vif (decide ((((l.take 250)[k]!).slot) = slot)) (.slice A2 (l.take 250).length c2)), Sp.eq (vif (decide ((((l.take 250)[k]!).slot) = slot)) (.int .i64 ((k : Nat) : Int))), Sp.eq (vif (decide ((((l.take 250)[k]!).slot) = slot)) (.pointer (some ((adr A2).add (k * 22))))), Sp.eq (vif (decide ((((l.take 250)[k]!).slot) = slot)) (.pointer (some (((adr A2).add (k * 22)).add 6)))), Sp.eq (vif (decide ((((l.take 250)[k]!).slot) = slot)) (Enc.val (((l.take 250)[k]!).parent))), Sp.eq (vif (decide ((((l.take 250)[k]!).slot) = slot)) (Enc.val (parent : Nm))), Sp.eq (vif (decide ((((l.take 250)[k]!).slot) = slot)) (.bool (decide (((l.take 250)[k]!).parent = parent)))), Sp.eq (.bool ((decide ((((l.take 250)[k]!).slot) = slot)) && (decide (((l.take 250)[k]!).parent = parent)))), Sp.eq (.bool ((decide ((((l.take 250)[k]!).slot) = slot)) && (decide (((l.take 250)[k]!).parent = parent)))), Sp.eq (vif ((decide ((((l.take 250)[k]!).slot) = slot)) && (decide (((l.take 250)[k]!).parent = parent))) (.slice A2 (l.take 250).length c2)), Sp.eq (vif ((decide ((((l.take 250)[k]!).slot) = slot)) && (decide (((l.take 250)[k]!).parent = parent))) (.int .i64 ((k : Nat) : Int))), Sp.eq (vif ((decide ((((l.take 250)[k]!).slot) = slot)) && (decide (((l.take 250)[k]!).parent = parent))) (.pointer (some ((adr A2).add (k * 22))))), Sp.eq (vif ((decide ((((l.take 250)[k]!).slot) = slot)) && (decide (((l.take 250)[k]!).parent = parent))) (.pointer (some ((adr A2).add (k * 22))))), Sp.eq (vif ((decide ((((l.take 250)[k]!).slot) = slot)) && (decide (((l.take 250)[k]!).parent = parent))) (.int .i64 (((l.take 250)[k]!).kind))), Sp.eq (vif ((decide ((((l.take 250)[k]!).slot) = slot)) && (decide (((l.take 250)[k]!).parent = parent))) (.bool (decide ((((l.take 250)[k]!).kind) ≤ 4)))), Sp.eq (.bool (((decide ((((l.take 250)[k]!).slot) = slot)) && (decide (((l.take 250)[k]!).parent = parent))) && (decide ((((l.take 250)[k]!).kind) ≤ 4))))] mixed (by rfl) (Obls.cons ?_ (Obls.cons ?_ (Obls.cons ?_ (Obls.cons ?_ (Obls.cons ?_ (Obls.cons ?_ (Obls.cons ?_ (Obls.cons ?_ (Obls.cons ?_ (Obls.cons ?_ (Obls.cons ?_ (Obls.cons ?_ (Obls.cons ?_ (Obls.cons ?_ (Obls.cons ?_ (Obls.cons ?_ (Obls.cons ?_ (Obls.cons ?_ (Obls.cons ?_ (Obls.cons ?_ (Obls.cons ?_ (Obls.cons ?_ (Obls.cons ?_ (Obls.cons ?_ Obls.nil)))))))))))))))))))))))) ?_
    · intro f7 w7 hx7 ho7 hd7
      have d7_s2 : f7 2 = (.slice A2 (l.take 250).length c2) := (ho7 2 rfl).trans s4_2
      exact D.val rfl (op_move rfl d7_s2)
    · intro f8 w8 hx8 ho8 hd8
      have d8_s10 : f8 10 = (.int .i64 ((k : Nat) : Int)) := (ho8 10 rfl).trans s4_10
      exact D.val rfl (op_move rfl d8_s10)
    · intro f9 w9 hx9 ho9 hd9
      have d9_0 : f9 19 = (.slice A2 (l.take 250).length c2) := hd9 0 rfl
      have d9_1 : f9 20 = (.int .i64 ((k : Nat) : Int)) := hd9 1 rfl
      have hR_l := hR_l.ext hx9
      have hB1 := hB1.ext hx9
      have hR2 := hR2.ext hx9
      have hO4_9 := hO4_9.ext hx9
      skip
      exact D.val rfl (op_index (k := k) rfl d9_0 d9_1 sl25 (hR2.getA (get_bang (l := l.take 250) (k := k) (by omega))).1 rfl (by omega) rfl)
    · intro f10 w10 hx10 ho10 hd10
      have d10_2 : f10 21 = (.pointer (some ((adr A2).add (k * 22)))) := hd10 2 rfl
      exact D.val rfl (op_field rfl d10_2 fo28_1 rfl)
    · intro f11 w11 hx11 ho11 hd11
      have d11_3 : f11 22 = (.pointer (some (((adr A2).add (k * 22)).add 1))) := hd11 3 rfl
      have hR_l := hR_l.ext hx11
      have hB1 := hB1.ext hx11
      have hR2 := hR2.ext hx11
      have hO4_9 := hO4_9.ext hx11
      skip
      exact D.val rfl (op_load1 rfl d11_3 one3 ((hR2.getA (get_bang (l := l.take 250) (k := k) (by omega))).2.one (n := 1) rfl))
    · intro f12 w12 hx12 ho12 hd12
      have d12_s3 : f12 3 = (.int .i64 slot) := (ho12 3 rfl).trans s4_3
      exact D.val rfl (op_move rfl d12_s3)
    · intro f13 w13 hx13 ho13 hd13
      have d13_4 : f13 23 = (.int .i64 (((l.take 250)[k]!).slot)) := hd13 4 rfl
      have d13_5 : f13 24 = (.int .i64 slot) := hd13 5 rfl
      exact D.val rfl (op_eql rfl d13_4 d13_5)
    · intro f14 w14 hx14 ho14 hd14
      have d14_6 : f14 25 = (.bool (decide ((((l.take 250)[k]!).slot) = slot))) := hd14 6 rfl
      exact D.val rfl (op_move rfl d14_6)
    · intro f15 w15 hx15 ho15 hd15
      have d15_s2 : f15 2 = (.slice A2 (l.take 250).length c2) := (ho15 2 rfl).trans s4_2
      have d15_7 : f15 26 = (.bool (decide ((((l.take 250)[k]!).slot) = slot))) := hd15 7 rfl
      exact D.guardv (wanted_yes rfl rfl d15_7) (fun hg => (op_move rfl d15_s2))
    · intro f16 w16 hx16 ho16 hd16
      have d16_s10 : f16 10 = (.int .i64 ((k : Nat) : Int)) := (ho16 10 rfl).trans s4_10
      have d16_7 : f16 26 = (.bool (decide ((((l.take 250)[k]!).slot) = slot))) := hd16 7 rfl
      exact D.guardv (wanted_yes rfl rfl d16_7) (fun hg => (op_move rfl d16_s10))
    · intro f17 w17 hx17 ho17 hd17
      have d17_7 : f17 26 = (.bool (decide ((((l.take 250)[k]!).slot) = slot))) := hd17 7 rfl
      have d17_8 : f17 27 = (vif (decide ((((l.take 250)[k]!).slot) = slot)) (.slice A2 (l.take 250).length c2)) := hd17 8 rfl
      have d17_9 : f17 28 = (vif (decide ((((l.take 250)[k]!).slot) = slot)) (.int .i64 ((k : Nat) : Int))) := hd17 9 rfl
      have hR_l := hR_l.ext hx17
      have hB1 := hB1.ext hx17
      have hR2 := hR2.ext hx17
      have hO4_9 := hO4_9.ext hx17
      exact D.guardv (wanted_yes rfl rfl d17_7) (fun hg => by have hp := hg; simp only [Bool.and_eq_true, Bool.or_eq_true, Bool.not_eq_true', decide_eq_true_eq, decide_eq_false_iff_not, bne_iff_ne, beq_iff_eq] at hp; skip; exact (op_index (k := k) rfl ((show _ = vif _ (.slice A2 (l.take 250).length c2) from d17_8).trans (vif_t hg).symm) ((show _ = vif _ (.int .i64 ((k : Nat) : Int)) from d17_9).trans (vif_t hg).symm) sl25 (hR2.getA (get_bang (l := l.take 250) (k := k) (by omega))).1 rfl (by omega) rfl))
    · intro f18 w18 hx18 ho18 hd18
      have d18_7 : f18 26 = (.bool (decide ((((l.take 250)[k]!).slot) = slot))) := hd18 7 rfl
      have d18_10 : f18 29 = (vif (decide ((((l.take 250)[k]!).slot) = slot)) (.pointer (some ((adr A2).add (k * 22))))) := hd18 10 rfl
      exact D.guardv (wanted_yes rfl rfl d18_7) (fun hg => (op_field rfl ((show _ = vif _ (.pointer (some ((adr A2).add (k * 22)))) from d18_10).trans (vif_t hg).symm) fo28_6 rfl))
    · intro f19 w19 hx19 ho19 hd19
      have d19_7 : f19 26 = (.bool (decide ((((l.take 250)[k]!).slot) = slot))) := hd19 7 rfl
      have d19_11 : f19 30 = (vif (decide ((((l.take 250)[k]!).slot) = slot)) (.pointer (some (((adr A2).add (k * 22)).add 6)))) := hd19 11 rfl
      have hR_l := hR_l.ext hx19
      have hB1 := hB1.ext hx19
      have hR2 := hR2.ext hx19
      have hO4_9 := hO4_9.ext hx19
      exact D.guardv (wanted_yes rfl rfl d19_7) (fun hg => by have hp := hg; simp only [Bool.and_eq_true, Bool.or_eq_true, Bool.not_eq_true', decide_eq_true_eq, decide_eq_false_iff_not, bne_iff_ne, beq_iff_eq] at hp; skip; exact (op_load (v := (((l.take 250)[k]!).parent : Nm)) rfl ((show _ = vif _ (.pointer (some (((adr A2).add (k * 22)).add 6))) from d19_11).trans (vif_t hg).symm) ty24 (sub_nm 6 (hR2.getA (get_bang (l := l.take 250) (k := k) (by omega))).2 rfl)))
    · intro f20 w20 hx20 ho20 hd20
      have d20_s5 : f20 5 = (.pointer (some ⟨b1, 0, none⟩)) := (ho20 5 rfl).trans s4_5
      have d20_7 : f20 26 = (.bool (decide ((((l.take 250)[k]!).slot) = slot))) := hd20 7 rfl
      have hR_l := hR_l.ext hx20
      have hB1 := hB1.ext hx20
      have hR2 := hR2.ext hx20
      have hO4_9 := hO4_9.ext hx20
      exact D.guardv (wanted_yes rfl rfl d20_7) (fun hg => (op_load (v := (parent : Nm)) rfl d20_s5 ty24 hB1.cells))
    · intro f21 w21 hx21 ho21 hd21
      have d21_7 : f21 26 = (.bool (decide ((((l.take 250)[k]!).slot) = slot))) := hd21 7 rfl
      have d21_12 : f21 31 = (vif (decide ((((l.take 250)[k]!).slot) = slot)) (Enc.val (((l.take 250)[k]!).parent))) := hd21 12 rfl
      have d21_13 : f21 32 = (vif (decide ((((l.take 250)[k]!).slot) = slot)) (Enc.val (parent : Nm))) := hd21 13 rfl
      exact D.guardv (wanted_yes rfl rfl d21_7) (fun hg => (op_eqle (a := (((l.take 250)[k]!).parent : Nm)) (b := (parent : Nm)) rfl ((show _ = vif _ (Enc.val (((l.take 250)[k]!).parent)) from d21_12).trans (vif_t hg).symm) ((show _ = vif _ (Enc.val (parent : Nm)) from d21_13).trans (vif_t hg).symm) eq24 (fun _ => ⟨_, rfl⟩) Try.eqGuardType24))
    · intro f22 w22 hx22 ho22 hd22
      have d22_7 : f22 26 = (.bool (decide ((((l.take 250)[k]!).slot) = slot))) := hd22 7 rfl
      have d22_14 : f22 33 = (vif (decide ((((l.take 250)[k]!).slot) = slot)) (.bool (decide (((l.take 250)[k]!).parent = parent)))) := hd22 14 rfl
      exact D.val rfl (op_and rfl d22_7 d22_14 rfl)
    · intro f23 w23 hx23 ho23 hd23
      have d23_15 : f23 34 = (.bool ((decide ((((l.take 250)[k]!).slot) = slot)) && (decide (((l.take 250)[k]!).parent = parent)))) := hd23 15 rfl
      exact D.val rfl (op_move rfl d23_15)
    · intro f24 w24 hx24 ho24 hd24
      have d24_s2 : f24 2 = (.slice A2 (l.take 250).length c2) := (ho24 2 rfl).trans s4_2
      have d24_16 : f24 35 = (.bool ((decide ((((l.take 250)[k]!).slot) = slot)) && (decide (((l.take 250)[k]!).parent = parent)))) := hd24 16 rfl
      exact D.guardv (wanted_yes rfl rfl d24_16) (fun hg => (op_move rfl d24_s2))
    · intro f25 w25 hx25 ho25 hd25
      have d25_s10 : f25 10 = (.int .i64 ((k : Nat) : Int)) := (ho25 10 rfl).trans s4_10
      have d25_16 : f25 35 = (.bool ((decide ((((l.take 250)[k]!).slot) = slot)) && (decide (((l.take 250)[k]!).parent = parent)))) := hd25 16 rfl
      exact D.guardv (wanted_yes rfl rfl d25_16) (fun hg => (op_move rfl d25_s10))
    · intro f26 w26 hx26 ho26 hd26
      have d26_16 : f26 35 = (.bool ((decide ((((l.take 250)[k]!).slot) = slot)) && (decide (((l.take 250)[k]!).parent = parent)))) := hd26 16 rfl
      have d26_17 : f26 36 = (vif ((decide ((((l.take 250)[k]!).slot) = slot)) && (decide (((l.take 250)[k]!).parent = parent))) (.slice A2 (l.take 250).length c2)) := hd26 17 rfl
      have d26_18 : f26 37 = (vif ((decide ((((l.take 250)[k]!).slot) = slot)) && (decide (((l.take 250)[k]!).parent = parent))) (.int .i64 ((k : Nat) : Int))) := hd26 18 rfl
      have hR_l := hR_l.ext hx26
      have hB1 := hB1.ext hx26
      have hR2 := hR2.ext hx26
      have hO4_9 := hO4_9.ext hx26
      exact D.guardv (wanted_yes rfl rfl d26_16) (fun hg => by have hp := hg; simp only [Bool.and_eq_true, Bool.or_eq_true, Bool.not_eq_true', decide_eq_true_eq, decide_eq_false_iff_not, bne_iff_ne, beq_iff_eq] at hp; skip; exact (op_index (k := k) rfl ((show _ = vif _ (.slice A2 (l.take 250).length c2) from d26_17).trans (vif_t hg).symm) ((show _ = vif _ (.int .i64 ((k : Nat) : Int)) from d26_18).trans (vif_t hg).symm) sl25 (hR2.getA (get_bang (l := l.take 250) (k := k) (by omega))).1 rfl (by omega) rfl))
    · intro f27 w27 hx27 ho27 hd27
      have d27_16 : f27 35 = (.bool ((decide ((((l.take 250)[k]!).slot) = slot)) && (decide (((l.take 250)[k]!).parent = parent)))) := hd27 16 rfl
      have d27_19 : f27 38 = (vif ((decide ((((l.take 250)[k]!).slot) = slot)) && (decide (((l.take 250)[k]!).parent = parent))) (.pointer (some ((adr A2).add (k * 22))))) := hd27 19 rfl
      exact D.guardv (wanted_yes rfl rfl d27_16) (fun hg => (op_field rfl ((show _ = vif _ (.pointer (some ((adr A2).add (k * 22)))) from d27_19).trans (vif_t hg).symm) fo28_0 rfl))
    · intro f28 w28 hx28 ho28 hd28
      have d28_16 : f28 35 = (.bool ((decide ((((l.take 250)[k]!).slot) = slot)) && (decide (((l.take 250)[k]!).parent = parent)))) := hd28 16 rfl
      have d28_20 : f28 39 = (vif ((decide ((((l.take 250)[k]!).slot) = slot)) && (decide (((l.take 250)[k]!).parent = parent))) (.pointer (some ((adr A2).add (k * 22))))) := hd28 20 rfl
      have hR_l := hR_l.ext hx28
      have hB1 := hB1.ext hx28
      have hR2 := hR2.ext hx28
      have hO4_9 := hO4_9.ext hx28
      exact D.guardv (wanted_yes rfl rfl d28_16) (fun hg => by have hp := hg; simp only [Bool.and_eq_true, Bool.or_eq_true, Bool.not_eq_true', decide_eq_true_eq, decide_eq_false_iff_not, bne_iff_ne, beq_iff_eq] at hp; skip; exact (op_load1 rfl ((show _ = vif _ (.pointer (some ((adr A2).add (k * 22)))) from d28_20).trans (vif_t hg).symm) one3 ((hR2.getA (get_bang (l := l.take 250) (k := k) (by omega))).2.one (n := 0) rfl)))
    · intro f29 w29 hx29 ho29 hd29
      have d29_16 : f29 35 = (.bool ((decide ((((l.take 250)[k]!).slot) = slot)) && (decide (((l.take 250)[k]!).parent = parent)))) := hd29 16 rfl
      have d29_21 : f29 40 = (vif ((decide ((((l.take 250)[k]!).slot) = slot)) && (decide (((l.take 250)[k]!).parent = parent))) (.int .i64 (((l.take 250)[k]!).kind))) := hd29 21 rfl
      exact D.guardv (wanted_yes rfl rfl d29_16) (fun hg => (op_leq rfl ((show _ = vif _ (.int .i64 (((l.take 250)[k]!).kind)) from d29_21).trans (vif_t hg).symm) rfl))
    · intro f30 w30 hx30 ho30 hd30
      have d30_16 : f30 35 = (.bool ((decide ((((l.take 250)[k]!).slot) = slot)) && (decide (((l.take 250)[k]!).parent = parent)))) := hd30 16 rfl
      have d30_22 : f30 41 = (vif ((decide ((((l.take 250)[k]!).slot) = slot)) && (decide (((l.take 250)[k]!).parent = parent))) (.bool (decide ((((l.take 250)[k]!).kind) ≤ 4)))) := hd30 22 rfl
      exact D.val rfl (op_and rfl d30_16 d30_22 rfl)
    intro f31 w31 hx31 ho31 hr31
    have s0 : f31 0 = (.int .i64 m) := (ho31 0 rfl).trans s4_0
    have s2 : f31 2 = (.slice A2 (l.take 250).length c2) := (ho31 2 rfl).trans s4_2
    have s3 : f31 3 = (.int .i64 slot) := (ho31 3 rfl).trans s4_3
    have s5 : f31 5 = (.pointer (some ⟨b1, 0, none⟩)) := (ho31 5 rfl).trans s4_5
    have s8 : f31 8 = (.bool false) := (ho31 8 rfl).trans s4_8
    have s9 : f31 9 = v4_9 := (ho31 9 rfl).trans s4_9
    have s10 : f31 10 = (.int .i64 ((k : Nat) : Int)) := (ho31 10 rfl).trans s4_10
    have s16 : f31 16 = (.bool (decide (((k : Nat) : Int) < ((l.take 250).length : Int)))) := ho31 16 rfl
    have s42 : f31 42 = (.bool (((decide ((((l.take 250)[k]!).slot) = slot)) && (decide (((l.take 250)[k]!).parent = parent))) && (decide ((((l.take 250)[k]!).kind) ≤ 4)))) := hr31 23 (by decide)
    have hE := hE.trans hx31
    have hS3 := hS3.trans hx31
    have hR_l := hR_l.ext hx31
    have hB1 := hB1.ext hx31
    have hR2 := hR2.ext hx31
    have hO4_9 := hO4_9.ext hx31
    refine thenF_nor ?_
    refine W.cond (t := ((decide ((((l.take 250)[k]!).slot) = slot)) && (decide (((l.take 250)[k]!).parent = parent))) && (decide ((((l.take 250)[k]!).kind) ≤ 4))) s42 (fun hc32 => ?_) (fun hc32 => ?_)
    · have hp32 := hc32
      simp only [Bool.and_eq_true, Bool.or_eq_true, Bool.and_eq_false_iff, Bool.or_eq_false_iff, Bool.not_eq_true', Bool.not_eq_false', decide_eq_true_eq, decide_eq_false_iff_not] at hp32
      have hstep := filter_yes (l := (l.take 250)) (p := (fun x => (decide (x.slot = slot) && decide (x.parent = parent)) && decide (x.kind ≤ 4))) (k := k) (by omega) hc32
      refine W.region (by rfl) ?_
      refine L.val rfl (op_move rfl s9) ?_
      refine L.val rfl (op_move rfl s2) ?_
      refine L.val rfl (op_move rfl s10) ?_
      refine L.val rfl (op_index (k := k) rfl rfl rfl sl25 (hR2.getA (get_bang (l := l.take 250) (k := k) (by omega))).1 rfl (by omega) rfl) ?_
      refine L.val rfl (op_load (v := (l.take 250)[k]!) rfl rfl ty28 (hR2.getA (get_bang (l := l.take 250) (k := k) (by omega))).2) ?_
      refine L.step rfl (op_slice1 (a := ((l.take 250)[k]! : Vt)) rfl rfl sl25 zs28 (by decide)) ?_
      rintro _ w33 ⟨b33, rfl, hb33, hB33, hx33⟩
      have hE := hE.trans hx33
      have hS3 := hS3.trans hx33
      have hR_l := hR_l.ext hx33
      have hB1 := hB1.ext hx33
      have hR2 := hR2.ext hx33
      have hO4_9 := hO4_9.ext hx33
      refine L.step rfl (op_append (a := ((l.take 250)[k]! : Vt)) (ad := ⟨b33, 0, none⟩) rfl rfl rfl sl25 zs28 bt28 hO4_9 hB33.cells (by omega) (by decide) hS3.size) ?_
      rintro v34 w34 ⟨hO34, hg34⟩
      have hS3 := hS3.own hO4_9 hg34
      have hR_l := S3_hR_l.ext hS3
      have hB1 := S3_hB1.ext hS3
      have hR2 := S3_hR2.ext hS3
      have hE := S3_hE.trans hS3
      refine L.val rfl (op_assign rfl rfl) ?_
      refine L.nil ?_
      refine blockF_nor ?_
      refine thenF_nor ?_
      refine W.region (by rfl) ?_
      refine L.val rfl (op_move rfl s10) ?_
      refine L.val rfl (op_add (c := ((k + 1 : Nat) : Int)) rfl rfl rfl (by omega) (by omega)) ?_
      refine L.val rfl (op_assign rfl rfl) ?_
      refine L.nil ?_
      refine thenF_nor ?_
      exact ⟨k + 1, ⟨(by (try dsimp only); omega), s0, s2, s3, s5, s8, rfl, (own_at (v := v34) rfl (by rw [← hstep]; exact hO34)), hS3⟩, (by (try dsimp only); omega)⟩
    · have hp32 := hc32
      simp only [Bool.and_eq_true, Bool.or_eq_true, Bool.and_eq_false_iff, Bool.or_eq_false_iff, Bool.not_eq_true', Bool.not_eq_false', decide_eq_true_eq, decide_eq_false_iff_not] at hp32
      have hstep := filter_no (l := (l.take 250)) (p := (fun x => (decide (x.slot = slot) && decide (x.parent = parent)) && decide (x.kind ≤ 4))) (k := k) (by omega) hc32
      refine W.skip ?_
      refine blockF_nor ?_
      refine thenF_nor ?_
      refine W.region (by rfl) ?_
      refine L.val rfl (op_move rfl s10) ?_
      refine L.val rfl (op_add (c := ((k + 1 : Nat) : Int)) rfl rfl rfl (by omega) (by omega)) ?_
      refine L.val rfl (op_assign rfl rfl) ?_
      refine L.nil ?_
      refine thenF_nor ?_
      exact ⟨k + 1, ⟨(by (try dsimp only); omega), s0, s2, s3, s5, s8, rfl, (own_at (v := v4_9) s9 (by rw [← hstep]; exact hO4_9)), hS3⟩, (by (try dsimp only); omega)⟩
  · have hp5 := hc5
    simp only [Bool.and_eq_true, Bool.or_eq_true, Bool.and_eq_false_iff, Bool.or_eq_false_iff, Bool.not_eq_true', Bool.not_eq_false', decide_eq_true_eq, decide_eq_false_iff_not] at hp5
    have hkl : k = (l.take 250).length := by omega
    rw [hkl, List.take_length] at hO4_9
    have hfl2 := List.length_filter_le (fun x => (decide (x.slot = slot) && decide (x.parent = parent)) && decide (x.kind ≤ 4)) (l.take 250)
    refine W.exit ?_
    refine thenF_exit ?_
    refine thenF_exit ?_
    refine blockF_hit ?_
    refine thenF_nor ?_
    refine W.seq ?_
    obtain ⟨A35, c35, hv35, hR35, hcap35⟩ := (hO4_9).form
    have hlen35 := hR35.len
    refine W.drawS [Sp.eq (.int .i64 m), Sp.eq (Enc.val (parent : Nm)), Sp.eq (.slice A35 ((l.take 250).filter (fun x => (decide (x.slot = slot) && decide (x.parent = parent)) && decide (x.kind ≤ 4))).length c35), Sp.eq (.int .i64 slot), Sp.slr (outcomes_f m parent ((l.take 250).filter (fun x => (decide (x.slot = slot) && decide (x.parent = parent)) && decide (x.kind ≤ 4))) slot : List Oc), Sp.eq (.int .i64 m), Sp.eq (Enc.val (parent : Nm)), Sp.eq (.slice A2 (l.take 250).length c2), Sp.eq (.int .i64 slot), Sp.slr (outcomes_f m parent (l.take 250) slot : List Oc), Sp.eq (.bool (decide (outcomes_f m parent ((l.take 250).filter (fun x => (decide (x.slot = slot) && decide (x.parent = parent)) && decide (x.kind ≤ 4))) slot = outcomes_f m parent (l.take 250) slot))), Sp.eq (.bool (decide (outcomes_f m parent ((l.take 250).filter (fun x => (decide (x.slot = slot) && decide (x.parent = parent)) && decide (x.kind ≤ 4))) slot = outcomes_f m parent (l.take 250) slot))), Sp.eq (vif (decide (outcomes_f m parent ((l.take 250).filter (fun x => (decide (x.slot = slot) && decide (x.parent = parent)) && decide (x.kind ≤ 4))) slot = outcomes_f m parent (l.take 250) slot)) (.bool true)), Sp.eq (.bool ((decide (outcomes_f m parent ((l.take 250).filter (fun x => (decide (x.slot = slot) && decide (x.parent = parent)) && decide (x.kind ≤ 4))) slot = outcomes_f m parent (l.take 250) slot)) && true)), Sp.eq (.bool ((decide (outcomes_f m parent ((l.take 250).filter (fun x => (decide (x.slot = slot) && decide (x.parent = parent)) && decide (x.kind ≤ 4))) slot = outcomes_f m parent (l.take 250) slot)) && true))] mixed (by rfl) (Obls.cons ?_ (Obls.cons ?_ (Obls.cons ?_ (Obls.cons ?_ (Obls.cons ?_ (Obls.cons ?_ (Obls.cons ?_ (Obls.cons ?_ (Obls.cons ?_ (Obls.cons ?_ (Obls.cons ?_ (Obls.cons ?_ (Obls.cons ?_ (Obls.cons ?_ (Obls.cons ?_ Obls.nil))))))))))))))) ?_
    · intro f37 w37 hx37 ho37 hd37
      have d37_s0 : f37 0 = (.int .i64 m) := (ho37 0 rfl).trans s4_0
      exact D.val rfl (op_move rfl d37_s0)
    · intro f38 w38 hx38 ho38 hd38
      have d38_s5 : f38 5 = (.pointer (some ⟨b1, 0, none⟩)) := (ho38 5 rfl).trans s4_5
      have hR_l := hR_l.ext hx38
      have hB1 := hB1.ext hx38
      have hR2 := hR2.ext hx38
      have hO4_9 := hO4_9.ext hx38
      have hR35 := hR35.ext hx38
      exact D.val rfl (op_load (v := (parent : Nm)) rfl d38_s5 ty24 hB1.cells)
    · intro f39 w39 hx39 ho39 hd39
      have d39_s9 : f39 9 = (.slice A35 ((l.take 250).filter (fun x => (decide (x.slot = slot) && decide (x.parent = parent)) && decide (x.kind ≤ 4))).length c35) := (ho39 9 rfl).trans ((show _ = v4_9 from s4_9).trans hv35)
      exact D.val rfl (op_move rfl d39_s9)
    · intro f40 w40 hx40 ho40 hd40
      have d40_s3 : f40 3 = (.int .i64 slot) := (ho40 3 rfl).trans s4_3
      exact D.val rfl (op_move rfl d40_s3)
    · intro f41 w41 hx41 ho41 hd41
      have d41_0 : f41 50 = (.int .i64 m) := hd41 0 rfl
      have d41_1 : f41 51 = (Enc.val (parent : Nm)) := hd41 1 rfl
      have d41_2 : f41 52 = (.slice A35 ((l.take 250).filter (fun x => (decide (x.slot = slot) && decide (x.parent = parent)) && decide (x.kind ≤ 4))).length c35) := hd41 2 rfl
      have d41_3 : f41 53 = (.int .i64 slot) := hd41 3 rfl
      have hR_l := hR_l.ext hx41
      have hB1 := hB1.ext hx41
      have hR2 := hR2.ext hx41
      have hO4_9 := hO4_9.ext hx41
      have hR35 := hR35.ext hx41
      exact D.call (R := (Sp.slr (outcomes_f m parent ((l.take 250).filter (fun x => (decide (x.slot = slot) && decide (x.parent = parent)) && decide (x.kind ≤ 4))) slot : List Oc)).p) rfl (OpS.call (op_call rfl (argsC d41_0 (argsC d41_1 (argsC d41_2 (argsC d41_3 argsN)))) Try.func26 rfl rfl) (Outcomes_ok hR35 (by first | omega | (simp only [List.length_drop, List.length_take, List.length_append, List.length_cons, List.length_nil] at *; omega))))
    · intro f42 w42 hx42 ho42 hd42
      have d42_s0 : f42 0 = (.int .i64 m) := (ho42 0 rfl).trans s4_0
      exact D.val rfl (op_move rfl d42_s0)
    · intro f43 w43 hx43 ho43 hd43
      have d43_s5 : f43 5 = (.pointer (some ⟨b1, 0, none⟩)) := (ho43 5 rfl).trans s4_5
      have hR_l := hR_l.ext hx43
      have hB1 := hB1.ext hx43
      have hR2 := hR2.ext hx43
      have hO4_9 := hO4_9.ext hx43
      have hR35 := hR35.ext hx43
      exact D.val rfl (op_load (v := (parent : Nm)) rfl d43_s5 ty24 hB1.cells)
    · intro f44 w44 hx44 ho44 hd44
      have d44_s2 : f44 2 = (.slice A2 (l.take 250).length c2) := (ho44 2 rfl).trans s4_2
      exact D.val rfl (op_move rfl d44_s2)
    · intro f45 w45 hx45 ho45 hd45
      have d45_s3 : f45 3 = (.int .i64 slot) := (ho45 3 rfl).trans s4_3
      exact D.val rfl (op_move rfl d45_s3)
    · intro f46 w46 hx46 ho46 hd46
      have d46_5 : f46 55 = (.int .i64 m) := hd46 5 rfl
      have d46_6 : f46 56 = (Enc.val (parent : Nm)) := hd46 6 rfl
      have d46_7 : f46 57 = (.slice A2 (l.take 250).length c2) := hd46 7 rfl
      have d46_8 : f46 58 = (.int .i64 slot) := hd46 8 rfl
      have hR_l := hR_l.ext hx46
      have hB1 := hB1.ext hx46
      have hR2 := hR2.ext hx46
      have hO4_9 := hO4_9.ext hx46
      have hR35 := hR35.ext hx46
      exact D.call (R := (Sp.slr (outcomes_f m parent (l.take 250) slot : List Oc)).p) rfl (OpS.call (op_call rfl (argsC d46_5 (argsC d46_6 (argsC d46_7 (argsC d46_8 argsN)))) Try.func26 rfl rfl) (Outcomes_ok hR2 (by first | omega | (simp only [List.length_drop, List.length_take, List.length_append, List.length_cons, List.length_nil] at *; omega))))
    · intro f47 w47 hx47 ho47 hd47
      obtain ⟨A47_4, c47_4, lo47_4, hi47_4, e47_4, hcap47_4, hR47_4⟩ := hd47 4 rfl
      have hlen47_4 := hR47_4.len
      obtain ⟨A47_9, c47_9, lo47_9, hi47_9, e47_9, hcap47_9, hR47_9⟩ := hd47 9 rfl
      have hlen47_9 := hR47_9.len
      have hR_l := hR_l.ext hx47
      have hB1 := hB1.ext hx47
      have hR2 := hR2.ext hx47
      have hO4_9 := hO4_9.ext hx47
      have hR35 := hR35.ext hx47
      exact D.call (R := (Sp.eq (.bool (decide (outcomes_f m parent ((l.take 250).filter (fun x => (decide (x.slot = slot) && decide (x.parent = parent)) && decide (x.kind ≤ 4))) slot = outcomes_f m parent (l.take 250) slot)))).p) rfl (OpS.call (op_call rfl (argsC e47_4 (argsC e47_9 argsN)) Try.func25 rfl rfl) (outcomes12_ok hR47_4 hR47_9))
    · intro f48 w48 hx48 ho48 hd48
      have d48_10 : f48 60 = (.bool (decide (outcomes_f m parent ((l.take 250).filter (fun x => (decide (x.slot = slot) && decide (x.parent = parent)) && decide (x.kind ≤ 4))) slot = outcomes_f m parent (l.take 250) slot))) := hd48 10 rfl
      exact D.val rfl (op_move rfl d48_10)
    · intro f49 w49 hx49 ho49 hd49
      have d49_11 : f49 61 = (.bool (decide (outcomes_f m parent ((l.take 250).filter (fun x => (decide (x.slot = slot) && decide (x.parent = parent)) && decide (x.kind ≤ 4))) slot = outcomes_f m parent (l.take 250) slot))) := hd49 11 rfl
      have hR_l := hR_l.ext hx49
      have hB1 := hB1.ext hx49
      have hR2 := hR2.ext hx49
      have hO4_9 := hO4_9.ext hx49
      have hR35 := hR35.ext hx49
      exact D.guardc (wanted_yes rfl rfl d49_11) (fun hg => (OpS.call (op_call rfl argsN Try.func23 rfl rfl) awake12_ok))
    · intro f50 w50 hx50 ho50 hd50
      have d50_11 : f50 61 = (.bool (decide (outcomes_f m parent ((l.take 250).filter (fun x => (decide (x.slot = slot) && decide (x.parent = parent)) && decide (x.kind ≤ 4))) slot = outcomes_f m parent (l.take 250) slot))) := hd50 11 rfl
      have d50_12 : f50 62 = (vif (decide (outcomes_f m parent ((l.take 250).filter (fun x => (decide (x.slot = slot) && decide (x.parent = parent)) && decide (x.kind ≤ 4))) slot = outcomes_f m parent (l.take 250) slot)) (.bool true)) := hd50 12 rfl
      exact D.val rfl (op_and rfl d50_11 d50_12 rfl)
    · intro f51 w51 hx51 ho51 hd51
      have d51_13 : f51 63 = (.bool ((decide (outcomes_f m parent ((l.take 250).filter (fun x => (decide (x.slot = slot) && decide (x.parent = parent)) && decide (x.kind ≤ 4))) slot = outcomes_f m parent (l.take 250) slot)) && true)) := hd51 13 rfl
      exact D.val rfl (op_assign rfl d51_13)
    intro f52 w52 hx52 ho52 hr52
    have s0 : f52 0 = (.int .i64 m) := (ho52 0 rfl).trans s4_0
    have s2 : f52 2 = (.slice A2 (l.take 250).length c2) := (ho52 2 rfl).trans s4_2
    have s3 : f52 3 = (.int .i64 slot) := (ho52 3 rfl).trans s4_3
    have s5 : f52 5 = (.pointer (some ⟨b1, 0, none⟩)) := (ho52 5 rfl).trans s4_5
    have s9 : f52 9 = (.slice A35 ((l.take 250).filter (fun x => (decide (x.slot = slot) && decide (x.parent = parent)) && decide (x.kind ≤ 4))).length c35) := (ho52 9 rfl).trans ((show _ = v4_9 from s4_9).trans hv35)
    have s10 : f52 10 = (.int .i64 ((k : Nat) : Int)) := (ho52 10 rfl).trans s4_10
    have s16 : f52 16 = (.bool (decide (((k : Nat) : Int) < ((l.take 250).length : Int)))) := ho52 16 rfl
    have s8 : f52 8 = (.bool ((decide (outcomes_f m parent ((l.take 250).filter (fun x => (decide (x.slot = slot) && decide (x.parent = parent)) && decide (x.kind ≤ 4))) slot = outcomes_f m parent (l.take 250) slot)) && true)) := hr52 14 (by decide)
    have hE := hE.trans hx52
    have hS3 := hS3.trans hx52
    have hR_l := hR_l.ext hx52
    have hB1 := hB1.ext hx52
    have hR2 := hR2.ext hx52
    have hO4_9 := hO4_9.ext hx52
    have hR35 := hR35.ext hx52
    refine thenF_nor ?_
    refine W.ret ?_
    exact end_ret1 (v := (.bool ((decide (outcomes_f m parent ((l.take 250).filter (fun x => (decide (x.slot = slot) && decide (x.parent = parent)) && decide (x.kind ≤ 4))) slot = outcomes_f m parent (l.take 250) slot)) && true))) rfl s8 ⟨(by rw [apart_same]; rfl), hE⟩

end Go.Proofs.Ytdknjfmjddlphaa
