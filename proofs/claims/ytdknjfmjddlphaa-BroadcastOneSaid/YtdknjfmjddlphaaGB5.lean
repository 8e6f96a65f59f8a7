/-
  Contracts of functions of the program, each with its walk in the logic of frames. Printed by a program of this session (wip/gen) from the translation.
-/
import Derived.Test.YtdknjfmjddlphaaGB2
import Derived.Test.YtdknjfmjddlphaaLaw15
import Derived.Test.YtdknjfmjddlphaaSkip
set_option linter.unusedSimpArgs false
set_option linter.unusedVariables false
namespace Go.Proofs.Ytdknjfmjddlphaa
open Go Go.Fk

set_option maxRecDepth 100000 in
set_option maxHeartbeats 8000000 in
theorem BroadcastOne_ok {m : Int} {parent : Nm} {A_l : Option Addr} {c_l lo_l hi_l : Nat} {l : List Vt} {slot : Int}  {w : World} (hR_l : Rd w lo_l hi_l A_l l) (hcap_l : l.length ≤ c_l) : Gives Try.prog 11 #[(.int .i64 m), (Enc.val (parent : Nm)), (.slice A_l l.length c_l), (.int .i64 slot)] w fun u w' => u = (.bool true) ∧ Ext w w' := by
  have hE : Ext w w := Ext.refl w
  have hlen_l := hR_l.len
  refine gives_of_W Try.func11 rfl Try.ntmps11 rfl ?_
  have htl : (l.take 250).length ≤ 250 := List.length_take_le _ _
  have hsz0 := size_nn m
  have hsz1 := size_le m
  refine W.seq ?_
  refine W.region (by rfl) ?_
  refine L.step rfl (op_box (cs := (Enc.cells (parent : Nm))) rfl rfl rfl) ?_
  rintro _ w1 ⟨b1, rfl, hb1, hB1, hx1⟩
  have hE := hE.trans hx1
  have hR_l := hR_l.ext hx1
  refine L.val (v := (.bool false)) rfl (op_assign rfl rfl) ?_
  refine L.nil ?_
  refine thenF_nor ?_
  refine W.seq ?_
  refine W.region (by rfl) ?_
  refine L.val rfl (op_move rfl rfl) ?_
  refine L.step rfl (OpS.call (op_call rfl (argsC rfl argsN) Try.func27 rfl rfl) (cut15_ok hR_l hcap_l)) ?_
  rintro _ w2 ⟨⟨A2, c2, lo2, hi2, rfl, hcap2, hR2⟩, hx2⟩
  have hE := hE.trans hx2
  have hR_l := hR_l.ext hx2
  have hB1 := hB1.ext hx2
  have hlen2 := hR2.len
  refine L.val rfl (op_assign rfl rfl) ?_
  refine L.nil ?_
  refine thenF_nor ?_
  refine W.seq ?_
  refine W.seq ?_
  refine W.region (by rfl) ?_
  refine L.val rfl (op_assign rfl rfl) ?_
  refine L.nil ?_
  refine thenF_nor ?_
  refine W.block ?_
  have S3_hR_l := hR_l
  have S3_hB1 := hB1
  have S3_hR2 := hR2
  have S3_hE := hE
  have hS3 : Ext w2 w2 := Ext.refl _
  refine W.loopg (γ := Nat) (fun (i : Nat) (f : Fr) (ww : World) => i ≤ (l.take 250).length ∧ (∀ a b, a < i → b < a → (((((decide ((l.take 250)[a]!.kind = 1)) && (decide ((l.take 250)[a]!.signer = slot))) && (decide ((l.take 250)[a]!.slot = slot))) && (decide ((l.take 250)[a]!.parent = parent))) && (conflict_f (l.take 250)[a]! (l.take 250)[b]!)) = false) ∧ f 0 = (.int .i64 m) ∧ f 2 = (.slice A2 (l.take 250).length c2) ∧ f 3 = (.int .i64 slot) ∧ f 5 = (.pointer (some ⟨b1, 0, none⟩)) ∧ f 9 = (.int .i64 ((i : Nat) : Int)) ∧ Ext w2 ww) (fun (i : Nat) => (l.take 250).length - i) 0 ⟨(by (try dsimp only); omega), (fun a b h => absurd h (Nat.not_lt_zero _)), rfl, rfl, rfl, rfl, rfl, hS3⟩ ?_
  rintro i f4 w4 ⟨hi, hone, s4_0, s4_2, s4_3, s4_5, s4_9, hS3⟩
  have hR_l := S3_hR_l.ext hS3
  have hB1 := S3_hB1.ext hS3
  have hR2 := S3_hR2.ext hS3
  have hE := S3_hE.trans hS3
  refine W.seq ?_
  refine W.seq ?_
  refine W.region (by rfl) ?_
  refine L.val rfl (op_move rfl s4_9) ?_
  refine L.val rfl (op_move rfl s4_2) ?_
  refine L.val rfl (op_len rfl rfl ln25) ?_
  refine L.val rfl (op_lss rfl rfl rfl) ?_
  refine L.nil ?_
  refine thenF_nor ?_
  refine W.cond (t := decide (((i : Nat) : Int) < ((l.take 250).length : Int))) rfl (fun hc5 => ?_) (fun hc5 => ?_)
  · have hp5 := hc5
    simp only [Bool.and_eq_true, Bool.or_eq_true, Bool.and_eq_false_iff, Bool.or_eq_false_iff, Bool.not_eq_true', Bool.not_eq_false', decide_eq_true_eq, decide_eq_false_iff_not] at hp5
    refine W.skip ?_
    refine thenF_nor ?_
    refine W.seq ?_
    refine W.block ?_
    refine W.seq ?_
    refine W.region (by rfl) ?_
    refine L.val rfl (op_assign rfl rfl) ?_
    refine L.nil ?_
    refine thenF_nor ?_
    refine W.block ?_
    have S6_hR_l := hR_l
    have S6_hB1 := hB1
    have S6_hR2 := hR2
    have S6_hE := hE
    have S6_hS3 := hS3
    have hS6 : Ext w4 w4 := Ext.refl _
    refine W.loopg (γ := Nat) (fun (k : Nat) (f : Fr) (ww : World) => k ≤ i ∧ (∀ b, b < k → (((((decide ((l.take 250)[i]!.kind = 1)) && (decide ((l.take 250)[i]!.signer = slot))) && (decide ((l.take 250)[i]!.slot = slot))) && (decide ((l.take 250)[i]!.parent = parent))) && (conflict_f (l.take 250)[i]! (l.take 250)[b]!)) = false) ∧ f 0 = (.int .i64 m) ∧ f 2 = (.slice A2 (l.take 250).length c2) ∧ f 3 = (.int .i64 slot) ∧ f 5 = (.pointer (some ⟨b1, 0, none⟩)) ∧ f 9 = (.int .i64 ((i : Nat) : Int)) ∧ f 16 = (.bool (decide (((i : Nat) : Int) < ((l.take 250).length : Int)))) ∧ f 10 = (.int .i64 ((k : Nat) : Int)) ∧ Ext w4 ww) (fun (k : Nat) => i - k) 0 ⟨(by (try dsimp only); omega), (fun b h => absurd h (Nat.not_lt_zero _)), s4_0, s4_2, s4_3, s4_5, s4_9, rfl, rfl, hS6⟩ ?_
    rintro k f7 w7 ⟨hk, hrow, s7_0, s7_2, s7_3, s7_5, s7_9, s7_16, s7_10, hS6⟩
    have hR_l := S6_hR_l.ext hS6
    have hB1 := S6_hB1.ext hS6
    have hR2 := S6_hR2.ext hS6
    have hE := S6_hE.trans hS6
    have hS3 := S6_hS3.trans hS6
    refine W.seq ?_
    refine W.seq ?_
    refine W.region (by rfl) ?_
    refine L.val rfl (op_move rfl s7_10) ?_
    refine L.val rfl (op_move rfl s7_9) ?_
    refine L.val rfl (op_lss rfl rfl rfl) ?_
    refine L.nil ?_
    refine thenF_nor ?_
    refine W.cond (t := decide (((k : Nat) : Int) < ((i : Nat) : Int))) rfl (fun hc8 => ?_) (fun hc8 => ?_)
    · have hp8 := hc8
      simp only [Bool.and_eq_true, Bool.or_eq_true, Bool.and_eq_false_iff, Bool.or_eq_false_iff, Bool.not_eq_true', Bool.not_eq_false', decide_eq_true_eq, decide_eq_false_iff_not] at hp8
      refine W.skip ?_
      refine thenF_nor ?_
      refine W.seq ?_
      refine W.block ?_
      refine W.seq ?_
      refine W.drawS [Sp.eq (.slice A2 (l.take 250).length c2), Sp.eq (.int .i64 ((i : Nat) : Int)), Sp.eq (.pointer (some ((adr A2).add (i * 22)))), Sp.eq (.pointer (some ((adr A2).add (i * 22)))), Sp.eq (.int .i64 (((l.take 250)[i]!).kind)), Sp.eq (.bool (decide ((((l.take 250)[i]!).kind) = 1))), Sp.eq (.bool (decide ((((l.take 250)[i]!).kind) = 1))), Sp.eq (vif (decide ((((l.take 250)[i]!).kind) = 1)) (.slice A2 (l.take 250).length c2)), Sp.eq (vif (decide ((((l.take 250)[i]!).kind) = 1)) (.int .i64 ((i : Nat) : Int))), Sp.eq (vif (decide ((((l.take 250)[i]!).kind) = 1)) (.pointer (some ((adr A2).add (i * 22))))), Sp.eq (vif (decide ((((l.take 250)[i]!).kind) = 1)) (.pointer (some (((adr A2).add (i * 22)).add 4)))), Sp.eq (vif (decide ((((l.take 250)[i]!).kind) = 1)) (.int .i64 (((l.take 250)[i]!).signer))), Sp.eq (vif (decide ((((l.take 250)[i]!).kind) = 1)) (.int .i64 slot)), Sp.eq (vif (decide ((((l.take 250)[i]!).kind) = 1)) (.bool (decide ((((l.take 250)[i]!).signer) = slot)))), Sp.eq (.bool ((decide ((((l.take 250)[i]!).kind) = 1)) && (decide ((((l.take 250)[i]!).signer) = slot)))), Sp.eq (.bool ((decide ((((l.take 250)[i]!).kind) = 1)) && (decide ((((l.take 250)[i]!).signer) = slot)))), Sp.eq (vif ((decide ((((l.take 250)[i]!).kind) = 1)) && (decide ((((l.take 250)[i]!).signer) = slot))) (.slice A2 (l.take 250).length c2)), Sp.eq (vif ((decide ((((l.take 250)[i]!).kind) = 1)) && (decide ((((l.take 250)[i]!).signer) = slot))) (.int .i64 ((i : Nat) : Int))), Sp.eq (vif ((decide ((((l.take 250)[i]!).kind) = 1)) && (decide ((((l.take 250)[i]!).signer) = slot))) (.pointer (some ((adr A2).add (i * 22))))), Sp.eq (vif ((decide ((((l.take 250)[i]!).kind) = 1)) && (decide ((((l.take 250)[i]!).signer) = slot))) (.pointer (some (((adr A2).add (i * 22)).add 1)))), Sp.eq (vif ((decide ((((l.take 250)[i]!).kind) = 1)) && (decide ((((l.take 250)[i]!).signer) = slot))) (.int .i64 (((l.take 250)[i]!).slot))), Sp.eq (vif ((decide ((((l.take 250)[i]!).kind) = 1)) && (decide ((((l.take 250)[i]!).signer) = slot))) (.int .i64 slot)), Sp.eq (vif ((decide ((((l.take 250)[i]!).kind) = 1)) && (decide ((((l.take 250)[i]!).signer) = slot))) (.bool (decide ((((l.take 250)[i]!).slot) = slot)))), Sp.eq (.bool (((decide ((((l.take 250)[i]!).kind) = 1)) && (decide ((((l.take 250)[i]!).signer) = slot))) && (decide ((((l.take 250)[i]!).slot) = slot)))), Sp.eq (.bool (((decide ((((l.take 250)[i]!).kind) = 1)) && (decide ((((l.take 250)[i]!).signer) = slot))) && (decide ((((l.take 250)[i]!).slot) = slot)))), Sp.eq (vif (((decide ((((l.take 250)[i]!).kind) = 1)) && (decide ((((l.take 250)[i]!).signer) = slot))) && (decide ((((l.take 250)[i]!).slot) = slot))) (.slice A2 (l.take 250).length c2)), Sp.eq (vif (((decide ((((l.take 250)[i]!).kind) = 1)) && (decide ((((l.take 250)[i]!).signer) = slot))) && (decide ((((l.take 250)[i]!).slot) = slot))) (.int .i64 ((i : Nat) : Int))), Sp.eq (vif (((decide ((((l.take 250)[i]!).kind) = 1)) && (decide ((((l.take 250)[i]!).signer) = slot))) && (decide ((((l.take 250)[i]!).slot) = slot))) (.pointer (some ((adr A2).add (i * 22))))), Sp.eq (vif (((decide ((((l.take 250)[i]!).kind) = 1)) && (decide ((((l.take 250)[i]!).signer) = slot))) && (decide ((((l.take 250)[i]!).slot) = slot))) (.pointer (some (((adr A2).add (i * 22)).add 6)))), Sp.eq (vif (((decide ((((l.take 250)[i]!).kind) = 1)) && (decide ((((l.take 250)[i]!).signer) = slot))) && (decide ((((l.take 250)[i]!).slot) = slot))) (Enc.val (((l.take 250)[i]!).parent))), Sp.eq (vif (((decide ((((l.take 250)[i]!).kind) = 1)) && (decide ((((l.take 250)[i]!).signer) = slot))) && (decide ((((l.take 250)[i]!).slot) = slot))) (Enc.val (parent : Nm))), Sp.eq (vif (((decide ((((l.take 250)[i]!).kind) = 1)) && (decide ((((l.take 250)[i]!).signer) = slot))) && (decide ((((l.take 250)[i]!).slot) = slot))) (.bool (decide (((l.take 250)[i]!).parent = parent)))), Sp.eq (.bool ((((decide ((((l.take 250)[i]!).kind) = 1)) && (decide ((((l.take 250)[i]!).signer) = slot))) && (decide ((((l.take 250)[i]!).slot) = slot))) && (decide (((l.take 250)[i]!).parent = parent)))), Sp.eq (.bool ((((decide ((((l.take 250)[i]!).kind) = 1)) && (decide ((((l.take 250)[i]!).signer) = slot))) && (decide ((((l.take 250)[i]!).slot) = slot))) && (decide (((l.take 250)[i]!).parent = parent)))), Sp.eq (vif ((((decide ((((l.take 250)[i]!).kind) = 1)) && (decide ((((l.take 250)[i]!).signer) = slot))) && (decide ((((l.take 250)[i]!).slot) = slot))) && (decide (((l.take 250)[i]!).parent = parent))) (.slice A2 (l.take 250).length c2)), Sp.eq (vif ((((decide ((((l.take 250)[i]!).kind) = 1)) && (decide ((((l.take 250)[i]!).signer) = slot))) && (decide ((((l.take 250)[i]!).slot) = slot))) && (decide (((l.take 250)[i]!).parent = parent))) (.int .i64 ((i : Nat) : Int))), Sp.eq (vif ((((decide ((((l.take 250)[i]!).kind) = 1)) && (decide ((((l.take 250)[i]!).signer) = slot))) && (decide ((((l.take 250)[i]!).slot) = slot))) && (decide (((l.take 250)[i]!).parent = parent))) (.pointer (some ((adr A2).add (i * 22))))), Sp.eq (vif ((((decide ((((l.take 250)[i]!).kind) = 1)) && (decide ((((l.take 250)[i]!).signer) = slot))) && (decide ((((l.take 250)[i]!).slot) = slot))) && (decide (((l.take 250)[i]!).parent = parent))) (Enc.val ((l.take 250)[i]!))), Sp.eq (vif ((((decide ((((l.take 250)[i]!).kind) = 1)) && (decide ((((l.take 250)[i]!).signer) = slot))) && (decide ((((l.take 250)[i]!).slot) = slot))) && (decide (((l.take 250)[i]!).parent = parent))) (.slice A2 (l.take 250).length c2)), Sp.eq (vif ((((decide ((((l.take 250)[i]!).kind) = 1)) && (decide ((((l.take 250)[i]!).signer) = slot))) && (decide ((((l.take 250)[i]!).slot) = slot))) && (decide (((l.take 250)[i]!).parent = parent))) (.int .i64 ((k : Nat) : Int))), Sp.eq (vif ((((decide ((((l.take 250)[i]!).kind) = 1)) && (decide ((((l.take 250)[i]!).signer) = slot))) && (decide ((((l.take 250)[i]!).slot) = slot))) && (decide (((l.take 250)[i]!).parent = parent))) (.pointer (some ((adr A2).add (k * 22))))), Sp.eq (vif ((((decide ((((l.take 250)[i]!).kind) = 1)) && (decide ((((l.take 250)[i]!).signer) = slot))) && (decide ((((l.take 250)[i]!).slot) = slot))) && (decide (((l.take 250)[i]!).parent = parent))) (Enc.val ((l.take 250)[k]!))), Sp.eq (vif ((((decide ((((l.take 250)[i]!).kind) = 1)) && (decide ((((l.take 250)[i]!).signer) = slot))) && (decide ((((l.take 250)[i]!).slot) = slot))) && (decide (((l.take 250)[i]!).parent = parent))) (.bool (conflict_f ((l.take 250)[i]!) ((l.take 250)[k]!)))), Sp.eq (.bool (((((decide ((((l.take 250)[i]!).kind) = 1)) && (decide ((((l.take 250)[i]!).signer) = slot))) && (decide ((((l.take 250)[i]!).slot) = slot))) && (decide (((l.take 250)[i]!).parent = parent))) && (conflict_f ((l.take 250)[i]!) ((l.take 250)[k]!))))] mixed (by rfl) (Obls.cons ?_ (Obls.cons ?_ (Obls.cons ?_ (Obls.cons ?_ (Obls.cons ?_ (Obls.cons ?_ (Obls.cons ?_ (Obls.cons ?_ (Obls.cons ?_ (Obls.cons ?_ (Obls.cons ?_ (Obls.cons ?_ (Obls.cons ?_ (Obls.cons ?_ (Obls.cons ?_ (Obls.cons ?_ (Obls.cons ?_ (Obls.cons ?_ (Obls.cons ?_ (Obls.cons ?_ (Obls.cons ?_ (Obls.cons ?_ (Obls.cons ?_ (Obls.cons ?_ (Obls.cons ?_ (Obls.cons ?_ (Obls.cons ?_ (Obls.cons ?_ (Obls.cons ?_ (Obls.cons ?_ (Obls.cons ?_ (Obls.cons ?_ (Obls.cons ?_ (Obls.cons ?_ (Obls.cons ?_ (Obls.cons ?_ (Obls.cons ?_ (Obls.cons ?_ (Obls.cons ?_ (Obls.cons ?_ (Obls.cons ?_ (Obls.cons ?_ (Obls.cons ?_ (Obls.cons ?_ Obls.nil)))))))))))))))))))))))))))))))))))))))))))) ?_
      · intro f10 w10 hx10 ho10 hd10
        have d10_s2 : f10 2 = (.slice A2 (l.take 250).length c2) := (ho10 2 rfl).trans s7_2
        exact D.val rfl (op_move rfl d10_s2)
      · intro f11 w11 hx11 ho11 hd11
        have d11_s9 : f11 9 = (.int .i64 ((i : Nat) : Int)) := (ho11 9 rfl).trans s7_9
        exact D.val rfl (op_move rfl d11_s9)
      · intro f12 w12 hx12 ho12 hd12
        have d12_0 : f12 24 = (.slice A2 (l.take 250).length c2) := hd12 0 rfl
        have d12_1 : f12 25 = (.int .i64 ((i : Nat) : Int)) := hd12 1 rfl
        have hR_l := hR_l.ext hx12
        have hB1 := hB1.ext hx12
        have hR2 := hR2.ext hx12
        skip
        exact D.val rfl (op_index (k := i) rfl d12_0 d12_1 sl25 (hR2.getA (get_bang (l := l.take 250) (k := i) (by omega))).1 rfl (by omega) rfl)
      · intro f13 w13 hx13 ho13 hd13
        have d13_2 : f13 26 = (.pointer (some ((adr A2).add (i * 22)))) := hd13 2 rfl
        exact D.val rfl (op_field rfl d13_2 fo28_0 rfl)
      · intro f14 w14 hx14 ho14 hd14
        have d14_3 : f14 27 = (.pointer (some ((adr A2).add (i * 22)))) := hd14 3 rfl
        have hR_l := hR_l.ext hx14
        have hB1 := hB1.ext hx14
        have hR2 := hR2.ext hx14
        skip
        exact D.val rfl (op_load1 rfl d14_3 one3 ((hR2.getA (get_bang (l := l.take 250) (k := i) (by omega))).2.one (n := 0) rfl))
      · intro f15 w15 hx15 ho15 hd15
        have d15_4 : f15 28 = (.int .i64 (((l.take 250)[i]!).kind)) := hd15 4 rfl
        exact D.val rfl (op_eql rfl d15_4 rfl)
      · intro f16 w16 hx16 ho16 hd16
        have d16_5 : f16 29 = (.bool (decide ((((l.take 250)[i]!).kind) = 1))) := hd16 5 rfl
        exact D.val rfl (op_move rfl d16_5)
      · intro f17 w17 hx17 ho17 hd17
        have d17_s2 : f17 2 = (.slice A2 (l.take 250).length c2) := (ho17 2 rfl).trans s7_2
        have d17_6 : f17 30 = (.bool (decide ((((l.take 250)[i]!).kind) = 1))) := hd17 6 rfl
        exact D.guardv (wanted_yes rfl rfl d17_6) (fun hg => (op_move rfl d17_s2))
      · intro f18 w18 hx18 ho18 hd18
        have d18_s9 : f18 9 = (.int .i64 ((i : Nat) : Int)) := (ho18 9 rfl).trans s7_9
        have d18_6 : f18 30 = (.bool (decide ((((l.take 250)[i]!).kind) = 1))) := hd18 6 rfl
        exact D.guardv (wanted_yes rfl rfl d18_6) (fun hg => (op_move rfl d18_s9))
      · intro f19 w19 hx19 ho19 hd19
        have d19_6 : f19 30 = (.bool (decide ((((l.take 250)[i]!).kind) = 1))) := hd19 6 rfl
        have d19_7 : f19 31 = (vif (decide ((((l.take 250)[i]!).kind) = 1)) (.slice A2 (l.take 250).length c2)) := hd19 7 rfl
        have d19_8 : f19 32 = (vif (decide ((((l.take 250)[i]!).kind) = 1)) (.int .i64 ((i : Nat) : Int))) := hd19 8 rfl
        have hR_l := hR_l.ext hx19
        have hB1 := hB1.ext hx19
        have hR2 := hR2.ext hx19
        exact D.guardv (wanted_yes rfl rfl d19_6) (fun hg => by have hp := hg; (try simp only [Bool.and_eq_true, Bool.or_eq_true, Bool.not_eq_true', decide_eq_true_eq, decide_eq_false_iff_not, bne_iff_ne, beq_iff_eq] at hp); skip; exact (op_index (k := i) rfl ((show _ = vif _ (.slice A2 (l.take 250).length c2) from d19_7).trans (vif_t hg).symm) ((show _ = vif _ (.int .i64 ((i : Nat) : Int)) from d19_8).trans (vif_t hg).symm) sl25 (hR2.getA (get_bang (l := l.take 250) (k := i) (by omega))).1 rfl (by omega) rfl))
      · intro f20 w20 hx20 ho20 hd20
        have d20_6 : f20 30 = (.bool (decide ((((l.take 250)[i]!).kind) = 1))) := hd20 6 rfl
        have d20_9 : f20 33 = (vif (decide ((((l.take 250)[i]!).kind) = 1)) (.pointer (some ((adr A2).add (i * 22))))) := hd20 9 rfl
        exact D.guardv (wanted_yes rfl rfl d20_6) (fun hg => (op_field rfl ((show _ = vif _ (.pointer (some ((adr A2).add (i * 22)))) from d20_9).trans (vif_t hg).symm) fo28_4 rfl))
      · intro f21 w21 hx21 ho21 hd21
        have d21_6 : f21 30 = (.bool (decide ((((l.take 250)[i]!).kind) = 1))) := hd21 6 rfl
        have d21_10 : f21 34 = (vif (decide ((((l.take 250)[i]!).kind) = 1)) (.pointer (some (((adr A2).add (i * 22)).add 4)))) := hd21 10 rfl
        have hR_l := hR_l.ext hx21
        have hB1 := hB1.ext hx21
        have hR2 := hR2.ext hx21
        exact D.guardv (wanted_yes rfl rfl d21_6) (fun hg => by have hp := hg; (try simp only [Bool.and_eq_true, Bool.or_eq_true, Bool.not_eq_true', decide_eq_true_eq, decide_eq_false_iff_not, bne_iff_ne, beq_iff_eq] at hp); skip; exact (op_load1 rfl ((show _ = vif _ (.pointer (some (((adr A2).add (i * 22)).add 4))) from d21_10).trans (vif_t hg).symm) one3 ((hR2.getA (get_bang (l := l.take 250) (k := i) (by omega))).2.one (n := 4) rfl)))
      · intro f22 w22 hx22 ho22 hd22
        have d22_s3 : f22 3 = (.int .i64 slot) := (ho22 3 rfl).trans s7_3
        have d22_6 : f22 30 = (.bool (decide ((((l.take 250)[i]!).kind) = 1))) := hd22 6 rfl
        exact D.guardv (wanted_yes rfl rfl d22_6) (fun hg => (op_move rfl d22_s3))
      · intro f23 w23 hx23 ho23 hd23
        have d23_6 : f23 30 = (.bool (decide ((((l.take 250)[i]!).kind) = 1))) := hd23 6 rfl
        have d23_11 : f23 35 = (vif (decide ((((l.take 250)[i]!).kind) = 1)) (.int .i64 (((l.take 250)[i]!).signer))) := hd23 11 rfl
        have d23_12 : f23 36 = (vif (decide ((((l.take 250)[i]!).kind) = 1)) (.int .i64 slot)) := hd23 12 rfl
        exact D.guardv (wanted_yes rfl rfl d23_6) (fun hg => (op_eql rfl ((show _ = vif _ (.int .i64 (((l.take 250)[i]!).signer)) from d23_11).trans (vif_t hg).symm) ((show _ = vif _ (.int .i64 slot) from d23_12).trans (vif_t hg).symm)))
      · intro f24 w24 hx24 ho24 hd24
        have d24_6 : f24 30 = (.bool (decide ((((l.take 250)[i]!).kind) = 1))) := hd24 6 rfl
        have d24_13 : f24 37 = (vif (decide ((((l.take 250)[i]!).kind) = 1)) (.bool (decide ((((l.take 250)[i]!).signer) = slot)))) := hd24 13 rfl
        exact D.val rfl (op_and rfl d24_6 d24_13 rfl)
      · intro f25 w25 hx25 ho25 hd25
        have d25_14 : f25 38 = (.bool ((decide ((((l.take 250)[i]!).kind) = 1)) && (decide ((((l.take 250)[i]!).signer) = slot)))) := hd25 14 rfl
        exact D.val rfl (op_move rfl d25_14)
      · intro f26 w26 hx26 ho26 hd26
        have d26_s2 : f26 2 = (.slice A2 (l.take 250).length c2) := (ho26 2 rfl).trans s7_2
        have d26_15 : f26 39 = (.bool ((decide ((((l.take 250)[i]!).kind) = 1)) && (decide ((((l.take 250)[i]!).signer) = slot)))) := hd26 15 rfl
        exact D.guardv (wanted_yes rfl rfl d26_15) (fun hg => (op_move rfl d26_s2))
      · intro f27 w27 hx27 ho27 hd27
        have d27_s9 : f27 9 = (.int .i64 ((i : Nat) : Int)) := (ho27 9 rfl).trans s7_9
        have d27_15 : f27 39 = (.bool ((decide ((((l.take 250)[i]!).kind) = 1)) && (decide ((((l.take 250)[i]!).signer) = slot)))) := hd27 15 rfl
        exact D.guardv (wanted_yes rfl rfl d27_15) (fun hg => (op_move rfl d27_s9))
      · intro f28 w28 hx28 ho28 hd28
        have d28_15 : f28 39 = (.bool ((decide ((((l.take 250)[i]!).kind) = 1)) && (decide ((((l.take 250)[i]!).signer) = slot)))) := hd28 15 rfl
        have d28_16 : f28 40 = (vif ((decide ((((l.take 250)[i]!).kind) = 1)) && (decide ((((l.take 250)[i]!).signer) = slot))) (.slice A2 (l.take 250).length c2)) := hd28 16 rfl
        have d28_17 : f28 41 = (vif ((decide ((((l.take 250)[i]!).kind) = 1)) && (decide ((((l.take 250)[i]!).signer) = slot))) (.int .i64 ((i : Nat) : Int))) := hd28 17 rfl
        have hR_l := hR_l.ext hx28
        have hB1 := hB1.ext hx28
        have hR2 := hR2.ext hx28
        exact D.guardv (wanted_yes rfl rfl d28_15) (fun hg => by have hp := hg; (try simp only [Bool.and_eq_true, Bool.or_eq_true, Bool.not_eq_true', decide_eq_true_eq, decide_eq_false_iff_not, bne_iff_ne, beq_iff_eq] at hp); skip; exact (op_index (k := i) rfl ((show _ = vif _ (.slice A2 (l.take 250).length c2) from d28_16).trans (vif_t hg).symm) ((show _ = vif _ (.int .i64 ((i : Nat) : Int)) from d28_17).trans (vif_t hg).symm) sl25 (hR2.getA (get_bang (l := l.take 250) (k := i) (by omega))).1 rfl (by omega) rfl))
      · intro f29 w29 hx29 ho29 hd29
        have d29_15 : f29 39 = (.bool ((decide ((((l.take 250)[i]!).kind) = 1)) && (decide ((((l.take 250)[i]!).signer) = slot)))) := hd29 15 rfl
        have d29_18 : f29 42 = (vif ((decide ((((l.take 250)[i]!).kind) = 1)) && (decide ((((l.take 250)[i]!).signer) = slot))) (.pointer (some ((adr A2).add (i * 22))))) := hd29 18 rfl
        exact D.guardv (wanted_yes rfl rfl d29_15) (fun hg => (op_field rfl ((show _ = vif _ (.pointer (some ((adr A2).add (i * 22)))) from d29_18).trans (vif_t hg).symm) fo28_1 rfl))
      · intro f30 w30 hx30 ho30 hd30
        have d30_15 : f30 39 = (.bool ((decide ((((l.take 250)[i]!).kind) = 1)) && (decide ((((l.take 250)[i]!).signer) = slot)))) := hd30 15 rfl
        have d30_19 : f30 43 = (vif ((decide ((((l.take 250)[i]!).kind) = 1)) && (decide ((((l.take 250)[i]!).signer) = slot))) (.pointer (some (((adr A2).add (i * 22)).add 1)))) := hd30 19 rfl
        have hR_l := hR_l.ext hx30
        have hB1 := hB1.ext hx30
        have hR2 := hR2.ext hx30
        exact D.guardv (wanted_yes rfl rfl d30_15) (fun hg => by have hp := hg; (try simp only [Bool.and_eq_true, Bool.or_eq_true, Bool.not_eq_true', decide_eq_true_eq, decide_eq_false_iff_not, bne_iff_ne, beq_iff_eq] at hp); skip; exact (op_load1 rfl ((show _ = vif _ (.pointer (some (((adr A2).add (i * 22)).add 1))) from d30_19).trans (vif_t hg).symm) one3 ((hR2.getA (get_bang (l := l.take 250) (k := i) (by omega))).2.one (n := 1) rfl)))
      · intro f31 w31 hx31 ho31 hd31
        have d31_s3 : f31 3 = (.int .i64 slot) := (ho31 3 rfl).trans s7_3
        have d31_15 : f31 39 = (.bool ((decide ((((l.take 250)[i]!).kind) = 1)) && (decide ((((l.take 250)[i]!).signer) = slot)))) := hd31 15 rfl
        exact D.guardv (wanted_yes rfl rfl d31_15) (fun hg => (op_move rfl d31_s3))
      · intro f32 w32 hx32 ho32 hd32
        have d32_15 : f32 39 = (.bool ((decide ((((l.take 250)[i]!).kind) = 1)) && (decide ((((l.take 250)[i]!).signer) = slot)))) := hd32 15 rfl
        have d32_20 : f32 44 = (vif ((decide ((((l.take 250)[i]!).kind) = 1)) && (decide ((((l.take 250)[i]!).signer) = slot))) (.int .i64 (((l.take 250)[i]!).slot))) := hd32 20 rfl
        have d32_21 : f32 45 = (vif ((decide ((((l.take 250)[i]!).kind) = 1)) && (decide ((((l.take 250)[i]!).signer) = slot))) (.int .i64 slot)) := hd32 21 rfl
        exact D.guardv (wanted_yes rfl rfl d32_15) (fun hg => (op_eql rfl ((show _ = vif _ (.int .i64 (((l.take 250)[i]!).slot)) from d32_20).trans (vif_t hg).symm) ((show _ = vif _ (.int .i64 slot) from d32_21).trans (vif_t hg).symm)))
      · intro f33 w33 hx33 ho33 hd33
        have d33_15 : f33 39 = (.bool ((decide ((((l.take 250)[i]!).kind) = 1)) && (decide ((((l.take 250)[i]!).signer) = slot)))) := hd33 15 rfl
        have d33_22 : f33 46 = (vif ((decide ((((l.take 250)[i]!).kind) = 1)) && (decide ((((l.take 250)[i]!).signer) = slot))) (.bool (decide ((((l.take 250)[i]!).slot) = slot)))) := hd33 22 rfl
        exact D.val rfl (op_and rfl d33_15 d33_22 rfl)
      · intro f34 w34 hx34 ho34 hd34
        have d34_23 : f34 47 = (.bool (((decide ((((l.take 250)[i]!).kind) = 1)) && (decide ((((l.take 250)[i]!).signer) = slot))) && (decide ((((l.take 250)[i]!).slot) = slot)))) := hd34 23 rfl
        exact D.val rfl (op_move rfl d34_23)
      · intro f35 w35 hx35 ho35 hd35
        have d35_s2 : f35 2 = (.slice A2 (l.take 250).length c2) := (ho35 2 rfl).trans s7_2
        have d35_24 : f35 48 = (.bool (((decide ((((l.take 250)[i]!).kind) = 1)) && (decide ((((l.take 250)[i]!).signer) = slot))) && (decide ((((l.take 250)[i]!).slot) = slot)))) := hd35 24 rfl
        exact D.guardv (wanted_yes rfl rfl d35_24) (fun hg => (op_move rfl d35_s2))
      · intro f36 w36 hx36 ho36 hd36
        have d36_s9 : f36 9 = (.int .i64 ((i : Nat) : Int)) := (ho36 9 rfl).trans s7_9
        have d36_24 : f36 48 = (.bool (((decide ((((l.take 250)[i]!).kind) = 1)) && (decide ((((l.take 250)[i]!).signer) = slot))) && (decide ((((l.take 250)[i]!).slot) = slot)))) := hd36 24 rfl
        exact D.guardv (wanted_yes rfl rfl d36_24) (fun hg => (op_move rfl d36_s9))
      · intro f37 w37 hx37 ho37 hd37
        have d37_24 : f37 48 = (.bool (((decide ((((l.take 250)[i]!).kind) = 1)) && (decide ((((l.take 250)[i]!).signer) = slot))) && (decide ((((l.take 250)[i]!).slot) = slot)))) := hd37 24 rfl
        have d37_25 : f37 49 = (vif (((decide ((((l.take 250)[i]!).kind) = 1)) && (decide ((((l.take 250)[i]!).signer) = slot))) && (decide ((((l.take 250)[i]!).slot) = slot))) (.slice A2 (l.take 250).length c2)) := hd37 25 rfl
        have d37_26 : f37 50 = (vif (((decide ((((l.take 250)[i]!).kind) = 1)) && (decide ((((l.take 250)[i]!).signer) = slot))) && (decide ((((l.take 250)[i]!).slot) = slot))) (.int .i64 ((i : Nat) : Int))) := hd37 26 rfl
        have hR_l := hR_l.ext hx37
        have hB1 := hB1.ext hx37
        have hR2 := hR2.ext hx37
        exact D.guardv (wanted_yes rfl rfl d37_24) (fun hg => by have hp := hg; (try simp only [Bool.and_eq_true, Bool.or_eq_true, Bool.not_eq_true', decide_eq_true_eq, decide_eq_false_iff_not, bne_iff_ne, beq_iff_eq] at hp); skip; exact (op_index (k := i) rfl ((show _ = vif _ (.slice A2 (l.take 250).length c2) from d37_25).trans (vif_t hg).symm) ((show _ = vif _ (.int .i64 ((i : Nat) : Int)) from d37_26).trans (vif_t hg).symm) sl25 (hR2.getA (get_bang (l := l.take 250) (k := i) (by omega))).1 rfl (by omega) rfl))
      · intro f38 w38 hx38 ho38 hd38
        have d38_24 : f38 48 = (.bool (((decide ((((l.take 250)[i]!).kind) = 1)) && (decide ((((l.take 250)[i]!).signer) = slot))) && (decide ((((l.take 250)[i]!).slot) = slot)))) := hd38 24 rfl
        have d38_27 : f38 51 = (vif (((decide ((((l.take 250)[i]!).kind) = 1)) && (decide ((((l.take 250)[i]!).signer) = slot))) && (decide ((((l.take 250)[i]!).slot) = slot))) (.pointer (some ((adr A2).add (i * 22))))) := hd38 27 rfl
        exact D.guardv (wanted_yes rfl rfl d38_24) (fun hg => (op_field rfl ((show _ = vif _ (.pointer (some ((adr A2).add (i * 22)))) from d38_27).trans (vif_t hg).symm) fo28_6 rfl))
      · intro f39 w39 hx39 ho39 hd39
        have d39_24 : f39 48 = (.bool (((decide ((((l.take 250)[i]!).kind) = 1)) && (decide ((((l.take 250)[i]!).signer) = slot))) && (decide ((((l.take 250)[i]!).slot) = slot)))) := hd39 24 rfl
        have d39_28 : f39 52 = (vif (((decide ((((l.take 250)[i]!).kind) = 1)) && (decide ((((l.take 250)[i]!).signer) = slot))) && (decide ((((l.take 250)[i]!).slot) = slot))) (.pointer (some (((adr A2).add (i * 22)).add 6)))) := hd39 28 rfl
        have hR_l := hR_l.ext hx39
        have hB1 := hB1.ext hx39
        have hR2 := hR2.ext hx39
        exact D.guardv (wanted_yes rfl rfl d39_24) (fun hg => by have hp := hg; (try simp only [Bool.and_eq_true, Bool.or_eq_true, Bool.not_eq_true', decide_eq_true_eq, decide_eq_false_iff_not, bne_iff_ne, beq_iff_eq] at hp); skip; exact (op_load (v := (((l.take 250)[i]!).parent : Nm)) rfl ((show _ = vif _ (.pointer (some (((adr A2).add (i * 22)).add 6))) from d39_28).trans (vif_t hg).symm) ty24 (sub_nm 6 (hR2.getA (get_bang (l := l.take 250) (k := i) (by omega))).2 rfl)))
      · intro f40 w40 hx40 ho40 hd40
        have d40_s5 : f40 5 = (.pointer (some ⟨b1, 0, none⟩)) := (ho40 5 rfl).trans s7_5
        have d40_24 : f40 48 = (.bool (((decide ((((l.take 250)[i]!).kind) = 1)) && (decide ((((l.take 250)[i]!).signer) = slot))) && (decide ((((l.take 250)[i]!).slot) = slot)))) := hd40 24 rfl
        have hR_l := hR_l.ext hx40
        have hB1 := hB1.ext hx40
        have hR2 := hR2.ext hx40
        exact D.guardv (wanted_yes rfl rfl d40_24) (fun hg => (op_load (v := (parent : Nm)) rfl d40_s5 ty24 hB1.cells))
      · intro f41 w41 hx41 ho41 hd41
        have d41_24 : f41 48 = (.bool (((decide ((((l.take 250)[i]!).kind) = 1)) && (decide ((((l.take 250)[i]!).signer) = slot))) && (decide ((((l.take 250)[i]!).slot) = slot)))) := hd41 24 rfl
        have d41_29 : f41 53 = (vif (((decide ((((l.take 250)[i]!).kind) = 1)) && (decide ((((l.take 250)[i]!).signer) = slot))) && (decide ((((l.take 250)[i]!).slot) = slot))) (Enc.val (((l.take 250)[i]!).parent))) := hd41 29 rfl
        have d41_30 : f41 54 = (vif (((decide ((((l.take 250)[i]!).kind) = 1)) && (decide ((((l.take 250)[i]!).signer) = slot))) && (decide ((((l.take 250)[i]!).slot) = slot))) (Enc.val (parent : Nm))) := hd41 30 rfl
        exact D.guardv (wanted_yes rfl rfl d41_24) (fun hg => (op_eqle (a := (((l.take 250)[i]!).parent : Nm)) (b := (parent : Nm)) rfl ((show _ = vif _ (Enc.val (((l.take 250)[i]!).parent)) from d41_29).trans (vif_t hg).symm) ((show _ = vif _ (Enc.val (parent : Nm)) from d41_30).trans (vif_t hg).symm) eq24 (fun _ => ⟨_, rfl⟩) Try.eqGuardType24))
      · intro f42 w42 hx42 ho42 hd42
        have d42_24 : f42 48 = (.bool (((decide ((((l.take 250)[i]!).kind) = 1)) && (decide ((((l.take 250)[i]!).signer) = slot))) && (decide ((((l.take 250)[i]!).slot) = slot)))) := hd42 24 rfl
        have d42_31 : f42 55 = (vif (((decide ((((l.take 250)[i]!).kind) = 1)) && (decide ((((l.take 250)[i]!).signer) = slot))) && (decide ((((l.take 250)[i]!).slot) = slot))) (.bool (decide (((l.take 250)[i]!).parent = parent)))) := hd42 31 rfl
        exact D.val rfl (op_and rfl d42_24 d42_31 rfl)
      · intro f43 w43 hx43 ho43 hd43
        have d43_32 : f43 56 = (.bool ((((decide ((((l.take 250)[i]!).kind) = 1)) && (decide ((((l.take 250)[i]!).signer) = slot))) && (decide ((((l.take 250)[i]!).slot) = slot))) && (decide (((l.take 250)[i]!).parent = parent)))) := hd43 32 rfl
        exact D.val rfl (op_move rfl d43_32)
      · intro f44 w44 hx44 ho44 hd44
        have d44_s2 : f44 2 = (.slice A2 (l.take 250).length c2) := (ho44 2 rfl).trans s7_2
        have d44_33 : f44 57 = (.bool ((((decide ((((l.take 250)[i]!).kind) = 1)) && (decide ((((l.take 250)[i]!).signer) = slot))) && (decide ((((l.take 250)[i]!).slot) = slot))) && (decide (((l.take 250)[i]!).parent = parent)))) := hd44 33 rfl
        exact D.guardv (wanted_yes rfl rfl d44_33) (fun hg => (op_move rfl d44_s2))
      · intro f45 w45 hx45 ho45 hd45
        have d45_s9 : f45 9 = (.int .i64 ((i : Nat) : Int)) := (ho45 9 rfl).trans s7_9
        have d45_33 : f45 57 = (.bool ((((decide ((((l.take 250)[i]!).kind) = 1)) && (decide ((((l.take 250)[i]!).signer) = slot))) && (decide ((((l.take 250)[i]!).slot) = slot))) && (decide (((l.take 250)[i]!).parent = parent)))) := hd45 33 rfl
        exact D.guardv (wanted_yes rfl rfl d45_33) (fun hg => (op_move rfl d45_s9))
      · intro f46 w46 hx46 ho46 hd46
        have d46_33 : f46 57 = (.bool ((((decide ((((l.take 250)[i]!).kind) = 1)) && (decide ((((l.take 250)[i]!).signer) = slot))) && (decide ((((l.take 250)[i]!).slot) = slot))) && (decide (((l.take 250)[i]!).parent = parent)))) := hd46 33 rfl
        have d46_34 : f46 58 = (vif ((((decide ((((l.take 250)[i]!).kind) = 1)) && (decide ((((l.take 250)[i]!).signer) = slot))) && (decide ((((l.take 250)[i]!).slot) = slot))) && (decide (((l.take 250)[i]!).parent = parent))) (.slice A2 (l.take 250).length c2)) := hd46 34 rfl
        have d46_35 : f46 59 = (vif ((((decide ((((l.take 250)[i]!).kind) = 1)) && (decide ((((l.take 250)[i]!).signer) = slot))) && (decide ((((l.take 250)[i]!).slot) = slot))) && (decide (((l.take 250)[i]!).parent = parent))) (.int .i64 ((i : Nat) : Int))) := hd46 35 rfl
        have hR_l := hR_l.ext hx46
        have hB1 := hB1.ext hx46
        have hR2 := hR2.ext hx46
        exact D.guardv (wanted_yes rfl rfl d46_33) (fun hg => by have hp := hg; (try simp only [Bool.and_eq_true, Bool.or_eq_true, Bool.not_eq_true', decide_eq_true_eq, decide_eq_false_iff_not, bne_iff_ne, beq_iff_eq] at hp); skip; exact (op_index (k := i) rfl ((show _ = vif _ (.slice A2 (l.take 250).length c2) from d46_34).trans (vif_t hg).symm) ((show _ = vif _ (.int .i64 ((i : Nat) : Int)) from d46_35).trans (vif_t hg).symm) sl25 (hR2.getA (get_bang (l := l.take 250) (k := i) (by omega))).1 rfl (by omega) rfl))
      · intro f47 w47 hx47 ho47 hd47
        have d47_33 : f47 57 = (.bool ((((decide ((((l.take 250)[i]!).kind) = 1)) && (decide ((((l.take 250)[i]!).signer) = slot))) && (decide ((((l.take 250)[i]!).slot) = slot))) && (decide (((l.take 250)[i]!).parent = parent)))) := hd47 33 rfl
        have d47_36 : f47 60 = (vif ((((decide ((((l.take 250)[i]!).kind) = 1)) && (decide ((((l.take 250)[i]!).signer) = slot))) && (decide ((((l.take 250)[i]!).slot) = slot))) && (decide (((l.take 250)[i]!).parent = parent))) (.pointer (some ((adr A2).add (i * 22))))) := hd47 36 rfl
        have hR_l := hR_l.ext hx47
        have hB1 := hB1.ext hx47
        have hR2 := hR2.ext hx47
        exact D.guardv (wanted_yes rfl rfl d47_33) (fun hg => by have hp := hg; (try simp only [Bool.and_eq_true, Bool.or_eq_true, Bool.not_eq_true', decide_eq_true_eq, decide_eq_false_iff_not, bne_iff_ne, beq_iff_eq] at hp); skip; exact (op_load (v := (l.take 250)[i]!) rfl ((show _ = vif _ (.pointer (some ((adr A2).add (i * 22)))) from d47_36).trans (vif_t hg).symm) ty28 (hR2.getA (get_bang (l := l.take 250) (k := i) (by omega))).2))
      · intro f48 w48 hx48 ho48 hd48
        have d48_s2 : f48 2 = (.slice A2 (l.take 250).length c2) := (ho48 2 rfl).trans s7_2
        have d48_33 : f48 57 = (.bool ((((decide ((((l.take 250)[i]!).kind) = 1)) && (decide ((((l.take 250)[i]!).signer) = slot))) && (decide ((((l.take 250)[i]!).slot) = slot))) && (decide (((l.take 250)[i]!).parent = parent)))) := hd48 33 rfl
        exact D.guardv (wanted_yes rfl rfl d48_33) (fun hg => (op_move rfl d48_s2))
      · intro f49 w49 hx49 ho49 hd49
        have d49_s10 : f49 10 = (.int .i64 ((k : Nat) : Int)) := (ho49 10 rfl).trans s7_10
        have d49_33 : f49 57 = (.bool ((((decide ((((l.take 250)[i]!).kind) = 1)) && (decide ((((l.take 250)[i]!).signer) = slot))) && (decide ((((l.take 250)[i]!).slot) = slot))) && (decide (((l.take 250)[i]!).parent = parent)))) := hd49 33 rfl
        exact D.guardv (wanted_yes rfl rfl d49_33) (fun hg => (op_move rfl d49_s10))
      · intro f50 w50 hx50 ho50 hd50
        have d50_33 : f50 57 = (.bool ((((decide ((((l.take 250)[i]!).kind) = 1)) && (decide ((((l.take 250)[i]!).signer) = slot))) && (decide ((((l.take 250)[i]!).slot) = slot))) && (decide (((l.take 250)[i]!).parent = parent)))) := hd50 33 rfl
        have d50_38 : f50 62 = (vif ((((decide ((((l.take 250)[i]!).kind) = 1)) && (decide ((((l.take 250)[i]!).signer) = slot))) && (decide ((((l.take 250)[i]!).slot) = slot))) && (decide (((l.take 250)[i]!).parent = parent))) (.slice A2 (l.take 250).length c2)) := hd50 38 rfl
        have d50_39 : f50 63 = (vif ((((decide ((((l.take 250)[i]!).kind) = 1)) && (decide ((((l.take 250)[i]!).signer) = slot))) && (decide ((((l.take 250)[i]!).slot) = slot))) && (decide (((l.take 250)[i]!).parent = parent))) (.int .i64 ((k : Nat) : Int))) := hd50 39 rfl
        have hR_l := hR_l.ext hx50
        have hB1 := hB1.ext hx50
        have hR2 := hR2.ext hx50
        exact D.guardv (wanted_yes rfl rfl d50_33) (fun hg => by have hp := hg; (try simp only [Bool.and_eq_true, Bool.or_eq_true, Bool.not_eq_true', decide_eq_true_eq, decide_eq_false_iff_not, bne_iff_ne, beq_iff_eq] at hp); skip; exact (op_index (k := k) rfl ((show _ = vif _ (.slice A2 (l.take 250).length c2) from d50_38).trans (vif_t hg).symm) ((show _ = vif _ (.int .i64 ((k : Nat) : Int)) from d50_39).trans (vif_t hg).symm) sl25 (hR2.getA (get_bang (l := l.take 250) (k := k) (by omega))).1 rfl (by omega) rfl))
      · intro f51 w51 hx51 ho51 hd51
        have d51_33 : f51 57 = (.bool ((((decide ((((l.take 250)[i]!).kind) = 1)) && (decide ((((l.take 250)[i]!).signer) = slot))) && (decide ((((l.take 250)[i]!).slot) = slot))) && (decide (((l.take 250)[i]!).parent = parent)))) := hd51 33 rfl
        have d51_40 : f51 64 = (vif ((((decide ((((l.take 250)[i]!).kind) = 1)) && (decide ((((l.take 250)[i]!).signer) = slot))) && (decide ((((l.take 250)[i]!).slot) = slot))) && (decide (((l.take 250)[i]!).parent = parent))) (.pointer (some ((adr A2).add (k * 22))))) := hd51 40 rfl
        have hR_l := hR_l.ext hx51
        have hB1 := hB1.ext hx51
        have hR2 := hR2.ext hx51
        exact D.guardv (wanted_yes rfl rfl d51_33) (fun hg => by have hp := hg; (try simp only [Bool.and_eq_true, Bool.or_eq_true, Bool.not_eq_true', decide_eq_true_eq, decide_eq_false_iff_not, bne_iff_ne, beq_iff_eq] at hp); skip; exact (op_load (v := (l.take 250)[k]!) rfl ((show _ = vif _ (.pointer (some ((adr A2).add (k * 22)))) from d51_40).trans (vif_t hg).symm) ty28 (hR2.getA (get_bang (l := l.take 250) (k := k) (by omega))).2))
      · intro f52 w52 hx52 ho52 hd52
        have d52_33 : f52 57 = (.bool ((((decide ((((l.take 250)[i]!).kind) = 1)) && (decide ((((l.take 250)[i]!).signer) = slot))) && (decide ((((l.take 250)[i]!).slot) = slot))) && (decide (((l.take 250)[i]!).parent = parent)))) := hd52 33 rfl
        have d52_37 : f52 61 = (vif ((((decide ((((l.take 250)[i]!).kind) = 1)) && (decide ((((l.take 250)[i]!).signer) = slot))) && (decide ((((l.take 250)[i]!).slot) = slot))) && (decide (((l.take 250)[i]!).parent = parent))) (Enc.val ((l.take 250)[i]!))) := hd52 37 rfl
        have d52_41 : f52 65 = (vif ((((decide ((((l.take 250)[i]!).kind) = 1)) && (decide ((((l.take 250)[i]!).signer) = slot))) && (decide ((((l.take 250)[i]!).slot) = slot))) && (decide (((l.take 250)[i]!).parent = parent))) (Enc.val ((l.take 250)[k]!))) := hd52 41 rfl
        have hR_l := hR_l.ext hx52
        have hB1 := hB1.ext hx52
        have hR2 := hR2.ext hx52
        exact D.guardc (wanted_yes rfl rfl d52_33) (fun hg => (OpS.call (op_call rfl (argsC ((show _ = vif _ (Enc.val ((l.take 250)[i]!)) from d52_37).trans (vif_t hg).symm) (argsC ((show _ = vif _ (Enc.val ((l.take 250)[k]!)) from d52_41).trans (vif_t hg).symm) argsN)) Try.func38 rfl rfl) Conflict_ok))
      · intro f53 w53 hx53 ho53 hd53
        have d53_33 : f53 57 = (.bool ((((decide ((((l.take 250)[i]!).kind) = 1)) && (decide ((((l.take 250)[i]!).signer) = slot))) && (decide ((((l.take 250)[i]!).slot) = slot))) && (decide (((l.take 250)[i]!).parent = parent)))) := hd53 33 rfl
        have d53_42 : f53 66 = (vif ((((decide ((((l.take 250)[i]!).kind) = 1)) && (decide ((((l.take 250)[i]!).signer) = slot))) && (decide ((((l.take 250)[i]!).slot) = slot))) && (decide (((l.take 250)[i]!).parent = parent))) (.bool (conflict_f ((l.take 250)[i]!) ((l.take 250)[k]!)))) := hd53 42 rfl
        exact D.val rfl (op_and rfl d53_33 d53_42 rfl)
      intro f54 w54 hx54 ho54 hr54
      have s0 : f54 0 = (.int .i64 m) := (ho54 0 rfl).trans s7_0
      have s2 : f54 2 = (.slice A2 (l.take 250).length c2) := (ho54 2 rfl).trans s7_2
      have s3 : f54 3 = (.int .i64 slot) := (ho54 3 rfl).trans s7_3
      have s5 : f54 5 = (.pointer (some ⟨b1, 0, none⟩)) := (ho54 5 rfl).trans s7_5
      have s9 : f54 9 = (.int .i64 ((i : Nat) : Int)) := (ho54 9 rfl).trans s7_9
      have s10 : f54 10 = (.int .i64 ((k : Nat) : Int)) := (ho54 10 rfl).trans s7_10
      have s16 : f54 16 = (.bool (decide (((i : Nat) : Int) < ((l.take 250).length : Int)))) := (ho54 16 rfl).trans s7_16
      have s21 : f54 21 = (.bool (decide (((k : Nat) : Int) < ((i : Nat) : Int)))) := ho54 21 rfl
      have s67 : f54 67 = (.bool (((((decide ((((l.take 250)[i]!).kind) = 1)) && (decide ((((l.take 250)[i]!).signer) = slot))) && (decide ((((l.take 250)[i]!).slot) = slot))) && (decide (((l.take 250)[i]!).parent = parent))) && (conflict_f ((l.take 250)[i]!) ((l.take 250)[k]!)))) := hr54 43 (by decide)
      have hE := hE.trans hx54
      have hS3 := hS3.trans hx54
      have hS6 := hS6.trans hx54
      have hR_l := hR_l.ext hx54
      have hB1 := hB1.ext hx54
      have hR2 := hR2.ext hx54
      refine thenF_nor ?_
      refine W.cond (t := ((((decide ((((l.take 250)[i]!).kind) = 1)) && (decide ((((l.take 250)[i]!).signer) = slot))) && (decide ((((l.take 250)[i]!).slot) = slot))) && (decide (((l.take 250)[i]!).parent = parent))) && (conflict_f ((l.take 250)[i]!) ((l.take 250)[k]!))) s67 (fun hc55 => ?_) (fun hc55 => ?_)
      · have hp55 := hc55
        simp only [Bool.and_eq_true, Bool.or_eq_true, Bool.and_eq_false_iff, Bool.or_eq_false_iff, Bool.not_eq_true', Bool.not_eq_false', decide_eq_true_eq, decide_eq_false_iff_not] at hp55
        have hyes := hc55
        refine W.seq ?_
        refine W.region (by rfl) ?_
        refine L.call (v := (.bool true)) rfl (OpS.call (op_call rfl argsN Try.func32 rfl rfl) awake15_ok) ?_
        intro w56 hx56
        have hE := hE.trans hx56
        have hS3 := hS3.trans hx56
        have hS6 := hS6.trans hx56
        have hR_l := hR_l.ext hx56
        have hB1 := hB1.ext hx56
        have hR2 := hR2.ext hx56
        refine L.val (v := (.bool true)) rfl (op_assign rfl rfl) ?_
        refine L.nil ?_
        refine thenF_nor ?_
        refine W.ret ?_
        refine blockF_ret ?_
        refine thenF_ret ?_
        refine thenF_ret ?_
        refine blockF_ret ?_
        refine blockF_ret ?_
        refine thenF_ret ?_
        refine thenF_ret ?_
        refine blockF_ret ?_
        refine thenF_ret ?_
        exact end_ret1 (v := (.bool true)) rfl rfl ⟨rfl, hE⟩
      · have hp55 := hc55
        simp only [Bool.and_eq_true, Bool.or_eq_true, Bool.and_eq_false_iff, Bool.or_eq_false_iff, Bool.not_eq_true', Bool.not_eq_false', decide_eq_true_eq, decide_eq_false_iff_not] at hp55
        have hno := hc55
        refine W.skip ?_
        refine blockF_nor ?_
        refine thenF_nor ?_
        refine W.region (by rfl) ?_
        refine L.val rfl (op_move rfl s10) ?_
        refine L.val rfl (op_add (c := ((k + 1 : Nat) : Int)) rfl rfl rfl (by omega) (by omega)) ?_
        refine L.val rfl (op_assign rfl rfl) ?_
        refine L.nil ?_
        refine thenF_nor ?_
        exact ⟨k + 1, ⟨(by (try dsimp only); omega), (fun b hb => if h : b < k then hrow b h else (have e : b = k := (by omega); by subst e; exact hno)), s0, s2, s3, s5, s9, s16, rfl, hS6⟩, (by (try dsimp only); omega)⟩
    · have hp8 := hc8
      simp only [Bool.and_eq_true, Bool.or_eq_true, Bool.and_eq_false_iff, Bool.or_eq_false_iff, Bool.not_eq_true', Bool.not_eq_false', decide_eq_true_eq, decide_eq_false_iff_not] at hp8
      refine W.exit ?_
      refine thenF_exit ?_
      refine thenF_exit ?_
      refine blockF_hit ?_
      refine blockF_nor ?_
      refine thenF_nor ?_
      refine W.region (by rfl) ?_
      refine L.val rfl (op_move rfl s7_9) ?_
      refine L.val rfl (op_add (c := ((i + 1 : Nat) : Int)) rfl rfl rfl (by omega) (by omega)) ?_
      refine L.val rfl (op_assign rfl rfl) ?_
      refine L.nil ?_
      refine thenF_nor ?_
      exact ⟨i + 1, ⟨(by (try dsimp only); omega), (fun a b ha hb => if h : a < i then hone a b h hb else (have e : a = i := (by omega); by subst e; exact hrow b (by omega))), s7_0, s7_2, s7_3, s7_5, rfl, hS3⟩, (by (try dsimp only); omega)⟩
  · have hp5 := hc5
    simp only [Bool.and_eq_true, Bool.or_eq_true, Bool.and_eq_false_iff, Bool.or_eq_false_iff, Bool.not_eq_true', Bool.not_eq_false', decide_eq_true_eq, decide_eq_false_iff_not] at hp5
    have hil : i = (l.take 250).length := by omega
    rw [hil] at hone
    refine W.exit ?_
    refine thenF_exit ?_
    refine thenF_exit ?_
    refine blockF_hit ?_
    refine thenF_nor ?_
    refine W.seq ?_
    refine W.region (by rfl) ?_
    refine L.val rfl (op_move rfl s4_0) ?_
    refine L.val rfl (op_load (v := (parent : Nm)) rfl s4_5 ty24 hB1.cells) ?_
    refine L.val rfl (op_move rfl s4_2) ?_
    refine L.val rfl (op_move rfl s4_3) ?_
    refine L.step rfl (OpS.call (op_call rfl (argsC rfl (argsC rfl (argsC rfl (argsC rfl argsN)))) Try.func28 rfl rfl) (Certified_ok hR2 (by first | omega | (simp only [List.length_drop, List.length_take, List.length_append, List.length_cons, List.length_nil] at *; omega)))) ?_
    rintro _ w57 ⟨⟨A57, c57, lo57, hi57, rfl, hcap57, hR57⟩, hx57⟩
    have hE := hE.trans hx57
    have hS3 := hS3.trans hx57
    have hR_l := hR_l.ext hx57
    have hB1 := hB1.ext hx57
    have hR2 := hR2.ext hx57
    have hlen57 := hR57.len
    refine L.val rfl (op_len rfl rfl ln40) ?_
    refine L.val rfl (op_leq rfl rfl rfl) ?_
    refine L.val rfl (op_move rfl rfl) ?_
    refine L.guardv (v := (.int .i64 m)) (wanted_yes rfl rfl rfl) (fun hg => (op_move rfl s4_0)) ?_
    refine L.guardv (v := (Enc.val (parent : Nm))) (wanted_yes rfl rfl rfl) (fun hg => (op_load (v := (parent : Nm)) rfl s4_5 ty24 hB1.cells)) ?_
    refine L.guardv (v := (.slice A2 (l.take 250).length c2)) (wanted_yes rfl rfl rfl) (fun hg => (op_move rfl s4_2)) ?_
    refine L.guardv (v := (.int .i64 slot)) (wanted_yes rfl rfl rfl) (fun hg => (op_move rfl s4_3)) ?_
    rcases Bool.eq_false_or_eq_true (decide (((certified_f m parent (l.take 250) slot).length : Int) ≤ 1)) with hs58 | hs58
    · have hp58 := hs58
      simp only [Bool.and_eq_true, Bool.or_eq_true, Bool.and_eq_false_iff, Bool.or_eq_false_iff, Bool.not_eq_true', Bool.not_eq_false', decide_eq_true_eq, decide_eq_false_iff_not] at hp58
      refine L.stepT (wanted_yes rfl rfl ((show _ = Value.bool (decide (((certified_f m parent (l.take 250) slot).length : Int) ≤ 1)) from rfl).trans (congrArg Value.bool hs58))) (OpS.call (op_call rfl (argsC ((show _ = vif _ (.int .i64 m) from rfl).trans (vif_t hs58).symm) (argsC ((show _ = vif _ (Enc.val (parent : Nm)) from rfl).trans (vif_t hs58).symm) (argsC ((show _ = vif _ (.slice A2 (l.take 250).length c2) from rfl).trans (vif_t hs58).symm) (argsC ((show _ = vif _ (.int .i64 slot) from rfl).trans (vif_t hs58).symm) argsN)))) Try.func33 rfl rfl) (Proposals_ok hR2 (by first | omega | (simp only [List.length_drop, List.length_take, List.length_append, List.length_cons, List.length_nil] at *; omega)))) ?_
      rintro _ w59 ⟨⟨A59, c59, lo59, hi59, rfl, hcap59, hR59⟩, hx59⟩
      have hE := hE.trans hx59
      have hS3 := hS3.trans hx59
      have hR_l := hR_l.ext hx59
      have hB1 := hB1.ext hx59
      have hR2 := hR2.ext hx59
      have hR57 := hR57.ext hx59
      have hlen59 := hR59.len
      refine L.valT (wanted_yes rfl rfl ((show _ = Value.bool (decide (((certified_f m parent (l.take 250) slot).length : Int) ≤ 1)) from rfl).trans (congrArg Value.bool hs58))) (op_len rfl rfl ln40) ?_
      refine L.valT (wanted_yes rfl rfl ((show _ = Value.bool (decide (((certified_f m parent (l.take 250) slot).length : Int) ≤ 1)) from rfl).trans (congrArg Value.bool hs58))) (op_leq rfl rfl rfl) ?_
      refine L.val rfl (op_pickT rfl ((show _ = Value.bool (decide (((certified_f m parent (l.take 250) slot).length : Int) ≤ 1)) from rfl).trans (congrArg Value.bool hs58)) rfl) ?_
      refine L.val rfl (op_move rfl rfl) ?_
      refine L.guardc (v := (.bool true)) (wanted_yes rfl rfl rfl) (fun hg => (OpS.call (op_call rfl argsN Try.func32 rfl rfl) awake15_ok)) ?_
      intro w60 hx60
      have hE := hE.trans hx60
      have hS3 := hS3.trans hx60
      have hR_l := hR_l.ext hx60
      have hB1 := hB1.ext hx60
      have hR2 := hR2.ext hx60
      have hR57 := hR57.ext hx60
      have hR59 := hR59.ext hx60
      refine L.val rfl (op_and rfl rfl rfl rfl) ?_
      refine L.val rfl (op_assign rfl rfl) ?_
      refine L.nil ?_
      refine thenF_nor ?_
      refine W.ret ?_
      exact end_ret1 (v := (.bool ((decide (((proposals_f m parent (l.take 250) slot).length : Int) ≤ 1)) && true))) rfl rfl ⟨(by have h1 := one15 (m := m) hone; have h2 := one15p (m := m) hone; first | (simp only [Value.bool.injEq, Bool.and_true, decide_eq_true_eq]; omega) | (simp [h1, h2]; done) | (exfalso; have h0 := hs58; simp only [decide_eq_false_iff_not] at h0; omega)), hE⟩
    · have hp58 := hs58
      simp only [Bool.and_eq_true, Bool.or_eq_true, Bool.and_eq_false_iff, Bool.or_eq_false_iff, Bool.not_eq_true', Bool.not_eq_false', decide_eq_true_eq, decide_eq_false_iff_not] at hp58
      refine L.skipF (wanted_yes rfl rfl ((show _ = Value.bool (decide (((certified_f m parent (l.take 250) slot).length : Int) ≤ 1)) from rfl).trans (congrArg Value.bool hs58))) ?_
      refine L.skipF (wanted_yes rfl rfl ((show _ = Value.bool (decide (((certified_f m parent (l.take 250) slot).length : Int) ≤ 1)) from rfl).trans (congrArg Value.bool hs58))) ?_
      refine L.skipF (wanted_yes rfl rfl ((show _ = Value.bool (decide (((certified_f m parent (l.take 250) slot).length : Int) ≤ 1)) from rfl).trans (congrArg Value.bool hs58))) ?_
      refine L.val (v := (.bool false)) rfl (op_pickF rfl ((show _ = Value.bool (decide (((certified_f m parent (l.take 250) slot).length : Int) ≤ 1)) from rfl).trans (congrArg Value.bool hs58)) rfl) ?_
      refine L.val (v := (.bool false)) rfl (op_move rfl rfl) ?_
      refine L.skipF (wanted_yes rfl rfl rfl) ?_
      refine L.val (v := (.bool false)) rfl (op_pickF rfl rfl rfl) ?_
      refine L.val (v := (.bool false)) rfl (op_assign rfl rfl) ?_
      refine L.nil ?_
      refine thenF_nor ?_
      refine W.ret ?_
      exact end_ret1 (v := (.bool false)) rfl rfl ⟨(by have h1 := one15 (m := m) hone; have h2 := one15p (m := m) hone; first | (simp only [Value.bool.injEq, Bool.and_true, decide_eq_true_eq]; omega) | (simp [h1, h2]; done) | (exfalso; have h0 := hs58; simp only [decide_eq_false_iff_not] at h0; omega)), hE⟩

end Go.Proofs.Ytdknjfmjddlphaa
