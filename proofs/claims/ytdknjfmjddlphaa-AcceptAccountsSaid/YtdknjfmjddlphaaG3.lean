/-
  Contracts of functions of the program, each with its walk in the logic of frames. Printed by a program of this session (wip/gen) from the translation.
-/
import Derived.Test.YtdknjfmjddlphaaIDs
set_option linter.unusedSimpArgs false
set_option linter.unusedVariables false
namespace Go.Proofs.Ytdknjfmjddlphaa
open Go Go.Fk

set_option maxRecDepth 100000 in
theorem supported_ok {m_c q_c : Int} {A_c : Option Addr} {c_c lo_c hi_c : Nat} {c : List Vt} {v : Vt} {fv_p : Value} {p : Vt → Bool}  {w : World} (hR_c : Rd w lo_c hi_c A_c c) (hf_p : Fits Try.prog w fv_p p) : Gives Try.prog 76 #[(.agg #[(.int .i64 m_c), (.int .i64 q_c), (.slice A_c c.length c_c)]), (Enc.val (v : Vt)), fv_p] w fun u w' => u = (.bool (supported_f m_c q_c v c p)) ∧ Ext w w' := by
  have hE : Ext w w := Ext.refl w
  have hlen_c := hR_c.len
  refine gives_of_W Try.func76 rfl Try.ntmps76 rfl ?_
  refine W.seq ?_
  refine W.region (by rfl) ?_
  refine L.step rfl (op_box (cs := [(.int .i64 m_c), (.int .i64 q_c), (.slice A_c c.length c_c)]) rfl rfl rfl) ?_
  rintro _ w1 ⟨b1, rfl, hb1, hB1, hx1⟩
  have hE := hE.trans hx1
  have hR_c := hR_c.ext hx1
  have hf_p := hf_p.ext hx1
  refine L.step rfl (op_box (cs := (Enc.cells (v : Vt))) rfl rfl rfl) ?_
  rintro _ w2 ⟨b2, rfl, hb2, hB2, hx2⟩
  have hE := hE.trans hx2
  have hR_c := hR_c.ext hx2
  have hf_p := hf_p.ext hx2
  have hB1 := hB1.ext hx2
  refine L.step rfl (op_box (cs := [fv_p]) rfl rfl (hf_p.cells)) ?_
  rintro _ w3 ⟨b3, rfl, hb3, hB3, hx3⟩
  have hE := hE.trans hx3
  have hR_c := hR_c.ext hx3
  have hf_p := hf_p.ext hx3
  have hB1 := hB1.ext hx3
  have hB2 := hB2.ext hx3
  refine L.val (v := (.bool false)) rfl (op_assign rfl rfl) ?_
  refine L.nil ?_
  refine thenF_nor ?_
  refine W.seq ?_
  refine W.seq ?_
  refine W.drawS [Sp.eq (.pointer (some ⟨b2, 5, none⟩)), Sp.eq (.int .i64 v.support), Sp.eq (.pointer (some ⟨b1, 0, none⟩)), Sp.eq (.int .i64 m_c), Sp.eq (.int .i64 (iandn v.support m_c)), Sp.eq (.bool (!decide ((iandn v.support m_c) = 0))), Sp.eq (.bool (!decide ((iandn v.support m_c) = 0))), Sp.eq (vif (!(!decide ((iandn v.support m_c) = 0))) (.pointer (some ⟨b2, 5, none⟩))), Sp.eq (vif (!(!decide ((iandn v.support m_c) = 0))) (.int .i64 v.support)), Sp.eq (vif (!(!decide ((iandn v.support m_c) = 0))) (.int .i64 (size_f v.support))), Sp.eq (vif (!(!decide ((iandn v.support m_c) = 0))) (.pointer (some ⟨b1, 1, none⟩))), Sp.eq (vif (!(!decide ((iandn v.support m_c) = 0))) (.int .i64 q_c)), Sp.eq (vif (!(!decide ((iandn v.support m_c) = 0))) (.bool (!decide ((size_f v.support) = q_c)))), Sp.eq (.bool ((!decide ((iandn v.support m_c) = 0)) || (!decide ((size_f v.support) = q_c))))] mixed (by rfl) (Obls.cons ?_ (Obls.cons ?_ (Obls.cons ?_ (Obls.cons ?_ (Obls.cons ?_ (Obls.cons ?_ (Obls.cons ?_ (Obls.cons ?_ (Obls.cons ?_ (Obls.cons ?_ (Obls.cons ?_ (Obls.cons ?_ (Obls.cons ?_ (Obls.cons ?_ Obls.nil)))))))))))))) ?_
  · intro f5 w5 hx5 ho5 hd5
    have d5_s4 : f5 4 = (.pointer (some ⟨b2, 0, none⟩)) := ho5 4 rfl
    exact D.val rfl (op_field rfl d5_s4 fo28_5 rfl)
  · intro f6 w6 hx6 ho6 hd6
    have d6_0 : f6 9 = (.pointer (some ⟨b2, 5, none⟩)) := hd6 0 rfl
    have hR_c := hR_c.ext hx6
    have hf_p := hf_p.ext hx6
    have hB1 := hB1.ext hx6
    have hB2 := hB2.ext hx6
    have hB3 := hB3.ext hx6
    exact D.val rfl (op_load1 rfl d6_0 one22 (hB2.cells.one (n := 5) rfl))
  · intro f7 w7 hx7 ho7 hd7
    have d7_s3 : f7 3 = (.pointer (some ⟨b1, 0, none⟩)) := ho7 3 rfl
    exact D.val rfl (op_field rfl d7_s3 fo68_0 rfl)
  · intro f8 w8 hx8 ho8 hd8
    have d8_2 : f8 11 = (.pointer (some ⟨b1, 0, none⟩)) := hd8 2 rfl
    have hR_c := hR_c.ext hx8
    have hf_p := hf_p.ext hx8
    have hB1 := hB1.ext hx8
    have hB2 := hB2.ext hx8
    have hB3 := hB3.ext hx8
    exact D.val rfl (op_load1 rfl d8_2 one22 (hB1.cells.one (n := 0) rfl))
  · intro f9 w9 hx9 ho9 hd9
    have d9_1 : f9 10 = (.int .i64 v.support) := hd9 1 rfl
    have d9_3 : f9 12 = (.int .i64 m_c) := hd9 3 rfl
    exact D.val rfl (op_iandn rfl d9_1 d9_3)
  · intro f10 w10 hx10 ho10 hd10
    have d10_4 : f10 13 = (.int .i64 (iandn v.support m_c)) := hd10 4 rfl
    exact D.val rfl (op_neq rfl d10_4 rfl)
  · intro f11 w11 hx11 ho11 hd11
    have d11_5 : f11 14 = (.bool (!decide ((iandn v.support m_c) = 0))) := hd11 5 rfl
    exact D.val rfl (op_move rfl d11_5)
  · intro f12 w12 hx12 ho12 hd12
    have d12_s4 : f12 4 = (.pointer (some ⟨b2, 0, none⟩)) := ho12 4 rfl
    have d12_6 : f12 15 = (.bool (!decide ((iandn v.support m_c) = 0))) := hd12 6 rfl
    exact D.guardv (wanted_no rfl rfl d12_6) (fun hg => (op_field rfl d12_s4 fo28_5 rfl))
  · intro f13 w13 hx13 ho13 hd13
    have d13_6 : f13 15 = (.bool (!decide ((iandn v.support m_c) = 0))) := hd13 6 rfl
    have d13_7 : f13 16 = (vif (!(!decide ((iandn v.support m_c) = 0))) (.pointer (some ⟨b2, 5, none⟩))) := hd13 7 rfl
    have hR_c := hR_c.ext hx13
    have hf_p := hf_p.ext hx13
    have hB1 := hB1.ext hx13
    have hB2 := hB2.ext hx13
    have hB3 := hB3.ext hx13
    exact D.guardv (wanted_no rfl rfl d13_6) (fun hg => (op_load1 rfl ((show _ = vif _ (.pointer (some ⟨b2, 5, none⟩)) from d13_7).trans (vif_t hg).symm) one22 (hB2.cells.one (n := 5) rfl)))
  · intro f14 w14 hx14 ho14 hd14
    have d14_6 : f14 15 = (.bool (!decide ((iandn v.support m_c) = 0))) := hd14 6 rfl
    have d14_8 : f14 17 = (vif (!(!decide ((iandn v.support m_c) = 0))) (.int .i64 v.support)) := hd14 8 rfl
    have hR_c := hR_c.ext hx14
    have hf_p := hf_p.ext hx14
    have hB1 := hB1.ext hx14
    have hB2 := hB2.ext hx14
    have hB3 := hB3.ext hx14
    exact D.guardc (wanted_no rfl rfl d14_6) (fun hg => (OpS.call (op_call rfl (argsC ((show _ = vif _ (.int .i64 v.support) from d14_8).trans (vif_t hg).symm) argsN) Try.func29 rfl rfl) Size_ok))
  · intro f15 w15 hx15 ho15 hd15
    have d15_s3 : f15 3 = (.pointer (some ⟨b1, 0, none⟩)) := ho15 3 rfl
    have d15_6 : f15 15 = (.bool (!decide ((iandn v.support m_c) = 0))) := hd15 6 rfl
    exact D.guardv (wanted_no rfl rfl d15_6) (fun hg => (op_field rfl d15_s3 fo68_1 rfl))
  · intro f16 w16 hx16 ho16 hd16
    have d16_6 : f16 15 = (.bool (!decide ((iandn v.support m_c) = 0))) := hd16 6 rfl
    have d16_10 : f16 19 = (vif (!(!decide ((iandn v.support m_c) = 0))) (.pointer (some ⟨b1, 1, none⟩))) := hd16 10 rfl
    have hR_c := hR_c.ext hx16
    have hf_p := hf_p.ext hx16
    have hB1 := hB1.ext hx16
    have hB2 := hB2.ext hx16
    have hB3 := hB3.ext hx16
    exact D.guardv (wanted_no rfl rfl d16_6) (fun hg => (op_load1 rfl ((show _ = vif _ (.pointer (some ⟨b1, 1, none⟩)) from d16_10).trans (vif_t hg).symm) one3 (hB1.cells.one (n := 1) rfl)))
  · intro f17 w17 hx17 ho17 hd17
    have d17_6 : f17 15 = (.bool (!decide ((iandn v.support m_c) = 0))) := hd17 6 rfl
    have d17_9 : f17 18 = (vif (!(!decide ((iandn v.support m_c) = 0))) (.int .i64 (size_f v.support))) := hd17 9 rfl
    have d17_11 : f17 20 = (vif (!(!decide ((iandn v.support m_c) = 0))) (.int .i64 q_c)) := hd17 11 rfl
    exact D.guardv (wanted_no rfl rfl d17_6) (fun hg => (op_neq rfl ((show _ = vif _ (.int .i64 (size_f v.support)) from d17_9).trans (vif_t hg).symm) ((show _ = vif _ (.int .i64 q_c) from d17_11).trans (vif_t hg).symm)))
  · intro f18 w18 hx18 ho18 hd18
    have d18_6 : f18 15 = (.bool (!decide ((iandn v.support m_c) = 0))) := hd18 6 rfl
    have d18_12 : f18 21 = (vif (!(!decide ((iandn v.support m_c) = 0))) (.bool (!decide ((size_f v.support) = q_c)))) := hd18 12 rfl
    exact D.val rfl (op_or rfl d18_6 rfl d18_12)
  intro f19 w19 hx19 ho19 hr19
  have s0 : f19 0 = (.agg #[(.int .i64 m_c), (.int .i64 q_c), (.slice A_c c.length c_c)]) := ho19 0 rfl
  have s1 : f19 1 = (Enc.val (v : Vt)) := ho19 1 rfl
  have s2 : f19 2 = fv_p := ho19 2 rfl
  have s3 : f19 3 = (.pointer (some ⟨b1, 0, none⟩)) := ho19 3 rfl
  have s4 : f19 4 = (.pointer (some ⟨b2, 0, none⟩)) := ho19 4 rfl
  have s5 : f19 5 = (.pointer (some ⟨b3, 0, none⟩)) := ho19 5 rfl
  have s6 : f19 6 = (.bool false) := ho19 6 rfl
  have s22 : f19 22 = (.bool ((!decide ((iandn v.support m_c) = 0)) || (!decide ((size_f v.support) = q_c)))) := hr19 13 (by decide)
  have hE := hE.trans hx19
  have hR_c := hR_c.ext hx19
  have hf_p := hf_p.ext hx19
  have hB1 := hB1.ext hx19
  have hB2 := hB2.ext hx19
  have hB3 := hB3.ext hx19
  refine thenF_nor ?_
  refine W.cond (t := (!decide ((iandn v.support m_c) = 0)) || (!decide ((size_f v.support) = q_c))) s22 (fun hc20 => ?_) (fun hc20 => ?_)
  · have hp20 := hc20
    simp only [Bool.and_eq_true, Bool.or_eq_true, Bool.and_eq_false_iff, Bool.or_eq_false_iff, Bool.not_eq_true', Bool.not_eq_false', decide_eq_true_eq, decide_eq_false_iff_not] at hp20
    have hres : supported_f m_c q_c v c p = false := by unfold supported_f; rw [hc20]; rfl
    refine W.seq ?_
    refine W.region (by rfl) ?_
    refine L.val (v := (.bool false)) rfl (op_assign rfl rfl) ?_
    refine L.nil ?_
    refine thenF_nor ?_
    refine W.ret ?_
    refine thenF_ret ?_
    exact end_ret1 (v := (.bool false)) rfl rfl ⟨(by rw [hres]), hE⟩
  · have hp20 := hc20
    simp only [Bool.and_eq_true, Bool.or_eq_true, Bool.and_eq_false_iff, Bool.or_eq_false_iff, Bool.not_eq_true', Bool.not_eq_false', decide_eq_true_eq, decide_eq_false_iff_not] at hp20
    have hgo : supported_f m_c q_c v c p = (ids_f v.support).all (fun i => c.any fun x => supported1_f x i p) := by unfold supported_f; rw [hc20]; rfl
    refine W.skip ?_
    refine thenF_nor ?_
    refine W.seq ?_
    refine W.seq ?_
    refine W.region (by rfl) ?_
    refine L.val rfl (op_field rfl s4 fo28_5 rfl) ?_
    refine L.val rfl (op_load1 rfl rfl one22 (hB2.cells.one (n := 5) rfl)) ?_
    refine L.step rfl (OpS.call (op_call rfl (argsC rfl argsN) Try.func44 rfl rfl) IDs_ok) ?_
    rintro _ w21 ⟨⟨A21, c21, lo21, hi21, rfl, hcap21, hR21⟩, hx21⟩
    have hE := hE.trans hx21
    have hR_c := hR_c.ext hx21
    have hf_p := hf_p.ext hx21
    have hB1 := hB1.ext hx21
    have hB2 := hB2.ext hx21
    have hB3 := hB3.ext hx21
    have hlen21 := hR21.len
    refine L.val rfl (op_len rfl rfl ln57) ?_
    refine L.val rfl (op_move rfl rfl) ?_
    refine L.nil ?_
    refine thenF_nor ?_
    refine W.block ?_
    have S22_hR_c := hR_c
    have S22_hf_p := hf_p
    have S22_hB1 := hB1
    have S22_hB2 := hB2
    have S22_hB3 := hB3
    have S22_hR21 := hR21
    have S22_hE := hE
    have hS22 : Ext w21 w21 := Ext.refl _
    refine W.loopg (γ := Nat) (fun (k : Nat) (f : Fr) (ww : World) => k ≤ (ids_f v.support).length ∧ ((ids_f v.support).drop k).all (fun i => c.any fun x => supported1_f x i p) = (ids_f v.support).all (fun i => c.any fun x => supported1_f x i p) ∧ f 3 = (.pointer (some ⟨b1, 0, none⟩)) ∧ f 5 = (.pointer (some ⟨b3, 0, none⟩)) ∧ f 25 = (.slice A21 (ids_f v.support).length c21) ∧ f 26 = (.int .i64 ((ids_f v.support).length : Int)) ∧ f 27 = (.int .i64 ((k : Nat) : Int)) ∧ Ext w21 ww) (fun (k : Nat) => (ids_f v.support).length - k) 0 ⟨(by (try dsimp only); omega), rfl, s3, s5, rfl, rfl, rfl, hS22⟩ ?_
    rintro k f23 w23 ⟨hk, hall, s23_3, s23_5, s23_25, s23_26, s23_27, hS22⟩
    have hR_c := S22_hR_c.ext hS22
    have hf_p := S22_hf_p.ext hS22
    have hB1 := S22_hB1.ext hS22
    have hB2 := S22_hB2.ext hS22
    have hB3 := S22_hB3.ext hS22
    have hR21 := S22_hR21.ext hS22
    have hE := S22_hE.trans hS22
    refine W.seq ?_
    refine W.region (by rfl) ?_
    refine L.val rfl (op_lss rfl s23_27 s23_26) ?_
    refine L.nil ?_
    refine thenF_nor ?_
    refine W.seq ?_
    refine W.cond (t := decide (((k : Nat) : Int) < ((ids_f v.support).length : Int))) rfl (fun hc24 => ?_) (fun hc24 => ?_)
    · have hp24 := hc24
      simp only [Bool.and_eq_true, Bool.or_eq_true, Bool.and_eq_false_iff, Bool.or_eq_false_iff, Bool.not_eq_true', Bool.not_eq_false', decide_eq_true_eq, decide_eq_false_iff_not] at hp24
      refine W.skip ?_
      refine thenF_nor ?_
      refine W.seq ?_
      refine W.block ?_
      refine W.seq ?_
      refine W.region (by rfl) ?_
      refine L.val rfl (op_index (k := k) rfl s23_25 s23_27 sl57 (hR21.getA (get_bang (l := ids_f v.support) (k := k) (by omega))).1 rfl (by omega) rfl) ?_
      refine L.val rfl (op_load1 rfl rfl one3 ((hR21.getA (get_bang (l := ids_f v.support) (k := k) (by omega))).2.one (n := 0) rfl)) ?_
      refine L.newvar (v := (.int .i64 ((ids_f v.support)[k]!))) (cs := (Enc.cells ((ids_f v.support)[k]! : Int))) rfl rfl rfl rfl rfl rfl (fun _ => rfl) rfl si3 zs3 (Enc.one _) ?_
      intro b25 w25 hb25 hB25 hx25
      have hbb25_hE := Nat.le_trans hE.size hb25
      have hbb25_hS22 := Nat.le_trans hS22.size hb25
      have hE := hE.trans hx25
      have hS22 := hS22.trans hx25
      have hR_c := hR_c.ext hx25
      have hf_p := hf_p.ext hx25
      have hB1 := hB1.ext hx25
      have hB2 := hB2.ext hx25
      have hB3 := hB3.ext hx25
      have hR21 := hR21.ext hx25
      refine L.nil ?_
      refine thenF_nor ?_
      refine W.seq ?_
      refine W.region (by rfl) ?_
      refine L.val rfl (op_loadcs (cs := [(.int .i64 m_c), (.int .i64 q_c), (.slice A_c c.length c_c)]) rfl s23_3 ag68 si68 hB1.cells) ?_
      refine L.val rfl (op_func rfl (argsC rfl (argsC s23_5 argsN))) ?_
      refine L.call (v := (.bool (c.any (fun xx => supported1_f xx ((ids_f v.support)[k]!) (p))))) rfl (OpS.call (op_call rfl (argsC rfl (argsC rfl argsN)) Try.func55 rfl rfl) (has_ok hR_c (⟨_, [(.pointer (some ⟨b25, 0, none⟩)), (.pointer (some ⟨b3, 0, none⟩))], _, rfl, Try.func102, rfl, rfl, fun xx ww hxx => (supported1_ok (hB25.cells.ext hxx) (hB3.cells.ext hxx) (hf_p.ext hxx))⟩ : Fits _ _ _ (fun xx => supported1_f xx ((ids_f v.support)[k]!) (p))))) ?_
      intro w26 hx26
      have hE := hE.trans hx26
      have hS22 := hS22.trans hx26
      have hR_c := hR_c.ext hx26
      have hf_p := hf_p.ext hx26
      have hB1 := hB1.ext hx26
      have hB2 := hB2.ext hx26
      have hB3 := hB3.ext hx26
      have hR21 := hR21.ext hx26
      have hB25 := hB25.ext hx26
      refine L.val rfl (op_not rfl rfl) ?_
      refine L.nil ?_
      refine thenF_nor ?_
      refine W.cond (t := !(c.any (fun xx => supported1_f xx ((ids_f v.support)[k]!) (p)))) rfl (fun hc27 => ?_) (fun hc27 => ?_)
      · have hp27 := hc27
        simp only [Bool.and_eq_true, Bool.or_eq_true, Bool.and_eq_false_iff, Bool.or_eq_false_iff, Bool.not_eq_true', Bool.not_eq_false', decide_eq_true_eq, decide_eq_false_iff_not] at hp27
        have hno := hc27
        simp only [Bool.not_eq_true'] at hno
        have hres : supported_f m_c q_c v c p = false := hgo.trans (all_no hall (by omega) hno).symm
        refine W.seq ?_
        refine W.region (by rfl) ?_
        refine L.val (v := (.bool false)) rfl (op_assign rfl rfl) ?_
        refine L.nil ?_
        refine thenF_nor ?_
        refine W.ret ?_
        refine blockF_ret ?_
        refine thenF_ret ?_
        refine thenF_ret ?_
        refine blockF_ret ?_
        refine thenF_ret ?_
        exact end_ret1 (v := (.bool false)) rfl rfl ⟨(by rw [hres]), hE⟩
      · have hp27 := hc27
        simp only [Bool.and_eq_true, Bool.or_eq_true, Bool.and_eq_false_iff, Bool.or_eq_false_iff, Bool.not_eq_true', Bool.not_eq_false', decide_eq_true_eq, decide_eq_false_iff_not] at hp27
        have hyes := hc27
        simp only [Bool.not_eq_false'] at hyes
        refine W.skip ?_
        refine blockF_nor ?_
        refine thenF_nor ?_
        refine W.region (by rfl) ?_
        refine L.val rfl (op_add (c := ((k + 1 : Nat) : Int)) rfl s23_27 rfl (by omega) (by omega)) ?_
        refine L.val rfl (op_move rfl rfl) ?_
        refine L.nil ?_
        refine thenF_nor ?_
        exact ⟨k + 1, ⟨(by (try dsimp only); omega), (all_go hall (by omega) hyes), s23_3, s23_5, s23_25, s23_26, rfl, hS22⟩, (by (try dsimp only); omega)⟩
    · have hp24 := hc24
      simp only [Bool.and_eq_true, Bool.or_eq_true, Bool.and_eq_false_iff, Bool.or_eq_false_iff, Bool.not_eq_true', Bool.not_eq_false', decide_eq_true_eq, decide_eq_false_iff_not] at hp24
      have hres : supported_f m_c q_c v c p = true := hgo.trans (all_end hall (by omega)).symm
      refine W.exit ?_
      refine thenF_exit ?_
      refine thenF_exit ?_
      refine blockF_hit ?_
      refine thenF_nor ?_
      refine W.seq ?_
      refine W.region (by rfl) ?_
      refine L.val (v := (.bool true)) rfl (op_assign rfl rfl) ?_
      refine L.nil ?_
      refine thenF_nor ?_
      refine W.ret ?_
      exact end_ret1 (v := (.bool true)) rfl rfl ⟨(by rw [hres]), hE⟩

def prevote_f (m_c : Int) (q_c : Int) (c : List Vt) (v : Vt) : Bool := bif decide (v.round = 1) then (decide (v.choice = 0)) || (supported_f m_c q_c v c (fun xx => prevote1_f xx v)) else (bif (supported_f m_c q_c v c (fun xx => prevote4_f xx (fun xx => prevote2_f xx v) (fun xx => prevote3_f xx v))) && (c.any (fun xx => prevote5_f xx v (fun xx => prevote2_f xx v))) then true else (supported_f m_c q_c v c (fun xx => prevote3_f xx v)) && (c.any (fun xx => prevote6_f xx v)))
set_option maxRecDepth 100000 in
theorem prevote_ok {m_c q_c : Int} {A_c : Option Addr} {c_c lo_c hi_c : Nat} {c : List Vt} {v : Vt}  {w : World} (hR_c : Rd w lo_c hi_c A_c c) (h0 : 0 ≤ v.round) (h1 : v.round ≤ 100) : Gives Try.prog 58 #[(.agg #[(.int .i64 m_c), (.int .i64 q_c), (.slice A_c c.length c_c)]), (Enc.val (v : Vt))] w fun u w' => u = (.bool (prevote_f m_c q_c c v)) ∧ Ext w w' := by
  have hE : Ext w w := Ext.refl w
  have hlen_c := hR_c.len
  refine gives_of_W Try.func58 rfl Try.ntmps58 rfl ?_
  refine W.seq ?_
  refine W.region (by rfl) ?_
  refine L.step rfl (op_box (cs := [(.int .i64 m_c), (.int .i64 q_c), (.slice A_c c.length c_c)]) rfl rfl rfl) ?_
  rintro _ w1 ⟨b1, rfl, hb1, hB1, hx1⟩
  have hE := hE.trans hx1
  have hR_c := hR_c.ext hx1
  refine L.step rfl (op_box (cs := (Enc.cells (v : Vt))) rfl rfl rfl) ?_
  rintro _ w2 ⟨b2, rfl, hb2, hB2, hx2⟩
  have hE := hE.trans hx2
  have hR_c := hR_c.ext hx2
  have hB1 := hB1.ext hx2
  refine L.val (v := (.bool false)) rfl (op_assign rfl rfl) ?_
  refine L.nil ?_
  refine thenF_nor ?_
  refine W.seq ?_
  refine W.seq ?_
  refine W.region (by rfl) ?_
  refine L.val rfl (op_field rfl rfl fo28_2 rfl) ?_
  refine L.val rfl (op_load1 rfl rfl one3 (hB2.cells.one (n := 2) rfl)) ?_
  refine L.val rfl (op_eql rfl rfl rfl) ?_
  refine L.nil ?_
  refine thenF_nor ?_
  refine W.cond (t := decide (v.round = 1)) rfl (fun hc3 => ?_) (fun hc3 => ?_)
  · have hp3 := hc3
    simp only [Bool.and_eq_true, Bool.or_eq_true, Bool.and_eq_false_iff, Bool.or_eq_false_iff, Bool.not_eq_true', Bool.not_eq_false', decide_eq_true_eq, decide_eq_false_iff_not] at hp3
    refine W.seq ?_
    refine W.region (by rfl) ?_
    refine L.val rfl (op_field rfl rfl fo28_3 rfl) ?_
    refine L.val rfl (op_load1 rfl rfl one3 (hB2.cells.one (n := 3) rfl)) ?_
    refine L.val rfl (op_eql rfl rfl rfl) ?_
    refine L.val rfl (op_move rfl rfl) ?_
    refine L.guardv (v := (.agg #[(.int .i64 m_c), (.int .i64 q_c), (.slice A_c c.length c_c)])) (wanted_no rfl rfl rfl) (fun hg => (op_loadcs (cs := [(.int .i64 m_c), (.int .i64 q_c), (.slice A_c c.length c_c)]) rfl rfl ag68 si68 hB1.cells)) ?_
    refine L.guardv (v := (Enc.val (v : Vt))) (wanted_no rfl rfl rfl) (fun hg => (op_load (v := (v : Vt)) rfl rfl ty28 hB2.cells)) ?_
    refine L.guardv (v := (.func (.func 77) #[] #[(.pointer (some ⟨b2, 0, none⟩))])) (wanted_no rfl rfl rfl) (fun hg => (op_func rfl (argsC rfl argsN))) ?_
    refine L.guardc (v := (.bool (supported_f m_c q_c v c (fun xx => prevote1_f xx v)))) (wanted_no rfl rfl rfl) (fun hg => (OpS.call (op_call rfl (argsC ((show _ = vif _ (.agg #[(.int .i64 m_c), (.int .i64 q_c), (.slice A_c c.length c_c)]) from rfl).trans (vif_t hg).symm) (argsC ((show _ = vif _ (Enc.val (v : Vt)) from rfl).trans (vif_t hg).symm) (argsC ((show _ = vif _ (.func (.func 77) #[] #[(.pointer (some ⟨b2, 0, none⟩))]) from rfl).trans (vif_t hg).symm) argsN))) Try.func76 rfl rfl) (supported_ok hR_c (⟨_, [(.pointer (some ⟨b2, 0, none⟩))], _, rfl, Try.func77, rfl, rfl, fun xx ww hxx => (prevote1_ok (hB2.cells.ext hxx))⟩ : Fits _ _ _ (fun xx => prevote1_f xx v))))) ?_
    intro w4 hx4
    have hE := hE.trans hx4
    have hR_c := hR_c.ext hx4
    have hB1 := hB1.ext hx4
    have hB2 := hB2.ext hx4
    refine L.val rfl (op_or rfl rfl rfl rfl) ?_
    refine L.val rfl (op_assign rfl rfl) ?_
    refine L.nil ?_
    refine thenF_nor ?_
    refine W.ret ?_
    refine thenF_ret ?_
    exact end_ret1 (v := (.bool ((decide (v.choice = 0)) || (supported_f m_c q_c v c (fun xx => prevote1_f xx v))))) rfl rfl ⟨by simp only [prevote_f, hc3, cond_true], hE⟩
  · have hp3 := hc3
    simp only [Bool.and_eq_true, Bool.or_eq_true, Bool.and_eq_false_iff, Bool.or_eq_false_iff, Bool.not_eq_true', Bool.not_eq_false', decide_eq_true_eq, decide_eq_false_iff_not] at hp3
    refine W.skip ?_
    refine thenF_nor ?_
    refine W.seq ?_
    refine W.region (by rfl) ?_
    refine L.val rfl (op_func rfl (argsC rfl argsN)) ?_
    refine L.newvar (v := (.func (.func 78) #[] #[(.pointer (some ⟨b2, 0, none⟩))])) (cs := [(.func (.func 78) #[] #[(.pointer (some ⟨b2, 0, none⟩))])]) rfl rfl rfl rfl rfl rfl (fun _ => rfl) rfl si65 zs65 (by intro u hu; simp at hu; subst hu; rfl) ?_
    intro b5 w5 hb5 hB5 hx5
    have hbb5_hE := Nat.le_trans hE.size hb5
    have hE := hE.trans hx5
    have hR_c := hR_c.ext hx5
    have hB1 := hB1.ext hx5
    have hB2 := hB2.ext hx5
    refine L.nil ?_
    refine thenF_nor ?_
    refine W.seq ?_
    refine W.region (by rfl) ?_
    refine L.val rfl (op_func rfl (argsC rfl argsN)) ?_
    refine L.newvar (v := (.func (.func 79) #[] #[(.pointer (some ⟨b2, 0, none⟩))])) (cs := [(.func (.func 79) #[] #[(.pointer (some ⟨b2, 0, none⟩))])]) rfl rfl rfl rfl rfl rfl (fun _ => rfl) rfl si65 zs65 (by intro u hu; simp at hu; subst hu; rfl) ?_
    intro b6 w6 hb6 hB6 hx6
    have hbb6_hE := Nat.le_trans hE.size hb6
    have hE := hE.trans hx6
    have hR_c := hR_c.ext hx6
    have hB1 := hB1.ext hx6
    have hB2 := hB2.ext hx6
    have hB5 := hB5.ext hx6
    refine L.nil ?_
    refine thenF_nor ?_
    refine W.seq ?_
    refine W.region (by rfl) ?_
    refine L.val rfl (op_func rfl (argsC rfl (argsC rfl argsN))) ?_
    refine L.val rfl (op_assign rfl rfl) ?_
    refine L.nil ?_
    refine thenF_nor ?_
    refine W.seq ?_
    refine W.seq ?_
    refine W.region (by rfl) ?_
    refine L.val rfl (op_loadcs (cs := [(.int .i64 m_c), (.int .i64 q_c), (.slice A_c c.length c_c)]) rfl rfl ag68 si68 hB1.cells) ?_
    refine L.val rfl (op_load (v := (v : Vt)) rfl rfl ty28 hB2.cells) ?_
    refine L.val rfl (op_move rfl rfl) ?_
    refine L.call (v := (.bool (supported_f m_c q_c v c (fun xx => prevote4_f xx (fun xx => prevote2_f xx v) (fun xx => prevote3_f xx v))))) rfl (OpS.call (op_call rfl (argsC rfl (argsC rfl (argsC rfl argsN))) Try.func76 rfl rfl) (supported_ok hR_c (⟨_, [(.pointer (some ⟨b5, 0, none⟩)), (.pointer (some ⟨b6, 0, none⟩))], _, rfl, Try.func80, rfl, rfl, fun xx ww hxx => (prevote4_ok (hB5.cells.ext hxx) (Fits.ext ((⟨_, [(.pointer (some ⟨b2, 0, none⟩))], _, rfl, Try.func78, rfl, rfl, fun xx ww hxx => (prevote2_ok (hB2.cells.ext hxx) (by first | omega | (simp only [List.length_drop, List.length_take, List.length_append, List.length_cons, List.length_nil] at *; omega)) (by first | omega | (simp only [List.length_drop, List.length_take, List.length_append, List.length_cons, List.length_nil] at *; omega)))⟩ : Fits _ _ _ (fun xx => prevote2_f xx v))) hxx) (hB6.cells.ext hxx) (Fits.ext ((⟨_, [(.pointer (some ⟨b2, 0, none⟩))], _, rfl, Try.func79, rfl, rfl, fun xx ww hxx => (prevote3_ok (hB2.cells.ext hxx) (by first | omega | (simp only [List.length_drop, List.length_take, List.length_append, List.length_cons, List.length_nil] at *; omega)) (by first | omega | (simp only [List.length_drop, List.length_take, List.length_append, List.length_cons, List.length_nil] at *; omega)))⟩ : Fits _ _ _ (fun xx => prevote3_f xx v))) hxx))⟩ : Fits _ _ _ (fun xx => prevote4_f xx (fun xx => prevote2_f xx v) (fun xx => prevote3_f xx v))))) ?_
    intro w7 hx7
    have hE := hE.trans hx7
    have hR_c := hR_c.ext hx7
    have hB1 := hB1.ext hx7
    have hB2 := hB2.ext hx7
    have hB5 := hB5.ext hx7
    have hB6 := hB6.ext hx7
    refine L.val rfl (op_move rfl rfl) ?_
    refine L.guardv (v := (.agg #[(.int .i64 m_c), (.int .i64 q_c), (.slice A_c c.length c_c)])) (wanted_yes rfl rfl rfl) (fun hg => (op_loadcs (cs := [(.int .i64 m_c), (.int .i64 q_c), (.slice A_c c.length c_c)]) rfl rfl ag68 si68 hB1.cells)) ?_
    refine L.guardv (v := (.func (.func 81) #[] #[(.pointer (some ⟨b2, 0, none⟩)), (.pointer (some ⟨b5, 0, none⟩))])) (wanted_yes rfl rfl rfl) (fun hg => (op_func rfl (argsC rfl (argsC rfl argsN)))) ?_
    refine L.guardc (v := (.bool (c.any (fun xx => prevote5_f xx v (fun xx => prevote2_f xx v))))) (wanted_yes rfl rfl rfl) (fun hg => (OpS.call (op_call rfl (argsC ((show _ = vif _ (.agg #[(.int .i64 m_c), (.int .i64 q_c), (.slice A_c c.length c_c)]) from rfl).trans (vif_t hg).symm) (argsC ((show _ = vif _ (.func (.func 81) #[] #[(.pointer (some ⟨b2, 0, none⟩)), (.pointer (some ⟨b5, 0, none⟩))]) from rfl).trans (vif_t hg).symm) argsN)) Try.func55 rfl rfl) (has_ok hR_c (⟨_, [(.pointer (some ⟨b2, 0, none⟩)), (.pointer (some ⟨b5, 0, none⟩))], _, rfl, Try.func81, rfl, rfl, fun xx ww hxx => (prevote5_ok (hB2.cells.ext hxx) (hB5.cells.ext hxx) (Fits.ext ((⟨_, [(.pointer (some ⟨b2, 0, none⟩))], _, rfl, Try.func78, rfl, rfl, fun xx ww hxx => (prevote2_ok (hB2.cells.ext hxx) (by first | omega | (simp only [List.length_drop, List.length_take, List.length_append, List.length_cons, List.length_nil] at *; omega)) (by first | omega | (simp only [List.length_drop, List.length_take, List.length_append, List.length_cons, List.length_nil] at *; omega)))⟩ : Fits _ _ _ (fun xx => prevote2_f xx v))) hxx))⟩ : Fits _ _ _ (fun xx => prevote5_f xx v (fun xx => prevote2_f xx v)))))) ?_
    intro w8 hx8
    have hE := hE.trans hx8
    have hR_c := hR_c.ext hx8
    have hB1 := hB1.ext hx8
    have hB2 := hB2.ext hx8
    have hB5 := hB5.ext hx8
    have hB6 := hB6.ext hx8
    refine L.val rfl (op_and rfl rfl rfl rfl) ?_
    refine L.nil ?_
    refine thenF_nor ?_
    refine W.cond (t := (supported_f m_c q_c v c (fun xx => prevote4_f xx (fun xx => prevote2_f xx v) (fun xx => prevote3_f xx v))) && (c.any (fun xx => prevote5_f xx v (fun xx => prevote2_f xx v)))) rfl (fun hc9 => ?_) (fun hc9 => ?_)
    · have hp9 := hc9
      simp only [Bool.and_eq_true, Bool.or_eq_true, Bool.and_eq_false_iff, Bool.or_eq_false_iff, Bool.not_eq_true', Bool.not_eq_false', decide_eq_true_eq, decide_eq_false_iff_not] at hp9
      refine W.seq ?_
      refine W.region (by rfl) ?_
      refine L.val (v := (.bool true)) rfl (op_assign rfl rfl) ?_
      refine L.nil ?_
      refine thenF_nor ?_
      refine W.ret ?_
      refine thenF_ret ?_
      exact end_ret1 (v := (.bool true)) rfl rfl ⟨by simp only [prevote_f, hc3, hc9, cond_true, cond_false], hE⟩
    · have hp9 := hc9
      simp only [Bool.and_eq_true, Bool.or_eq_true, Bool.and_eq_false_iff, Bool.or_eq_false_iff, Bool.not_eq_true', Bool.not_eq_false', decide_eq_true_eq, decide_eq_false_iff_not] at hp9
      refine W.skip ?_
      refine thenF_nor ?_
      refine W.seq ?_
      refine W.region (by rfl) ?_
      refine L.val rfl (op_loadcs (cs := [(.int .i64 m_c), (.int .i64 q_c), (.slice A_c c.length c_c)]) rfl rfl ag68 si68 hB1.cells) ?_
      refine L.val rfl (op_load (v := (v : Vt)) rfl rfl ty28 hB2.cells) ?_
      refine L.val rfl (op_load1 rfl rfl one65 (hB6.cells.one (n := 0) rfl)) ?_
      refine L.call (v := (.bool (supported_f m_c q_c v c (fun xx => prevote3_f xx v)))) rfl (OpS.call (op_call rfl (argsC rfl (argsC rfl (argsC rfl argsN))) Try.func76 rfl rfl) (supported_ok hR_c (⟨_, [(.pointer (some ⟨b2, 0, none⟩))], _, rfl, Try.func79, rfl, rfl, fun xx ww hxx => (prevote3_ok (hB2.cells.ext hxx) (by first | omega | (simp only [List.length_drop, List.length_take, List.length_append, List.length_cons, List.length_nil] at *; omega)) (by first | omega | (simp only [List.length_drop, List.length_take, List.length_append, List.length_cons, List.length_nil] at *; omega)))⟩ : Fits _ _ _ (fun xx => prevote3_f xx v)))) ?_
      intro w10 hx10
      have hE := hE.trans hx10
      have hR_c := hR_c.ext hx10
      have hB1 := hB1.ext hx10
      have hB2 := hB2.ext hx10
      have hB5 := hB5.ext hx10
      have hB6 := hB6.ext hx10
      refine L.val rfl (op_move rfl rfl) ?_
      refine L.guardv (v := (.agg #[(.int .i64 m_c), (.int .i64 q_c), (.slice A_c c.length c_c)])) (wanted_yes rfl rfl rfl) (fun hg => (op_loadcs (cs := [(.int .i64 m_c), (.int .i64 q_c), (.slice A_c c.length c_c)]) rfl rfl ag68 si68 hB1.cells)) ?_
      refine L.guardv (v := (.func (.func 82) #[] #[(.pointer (some ⟨b2, 0, none⟩))])) (wanted_yes rfl rfl rfl) (fun hg => (op_func rfl (argsC rfl argsN))) ?_
      refine L.guardc (v := (.bool (c.any (fun xx => prevote6_f xx v)))) (wanted_yes rfl rfl rfl) (fun hg => (OpS.call (op_call rfl (argsC ((show _ = vif _ (.agg #[(.int .i64 m_c), (.int .i64 q_c), (.slice A_c c.length c_c)]) from rfl).trans (vif_t hg).symm) (argsC ((show _ = vif _ (.func (.func 82) #[] #[(.pointer (some ⟨b2, 0, none⟩))]) from rfl).trans (vif_t hg).symm) argsN)) Try.func55 rfl rfl) (has_ok hR_c (⟨_, [(.pointer (some ⟨b2, 0, none⟩))], _, rfl, Try.func82, rfl, rfl, fun xx ww hxx => (prevote6_ok (hB2.cells.ext hxx) (by first | omega | (simp only [List.length_drop, List.length_take, List.length_append, List.length_cons, List.length_nil] at *; omega)) (by first | omega | (simp only [List.length_drop, List.length_take, List.length_append, List.length_cons, List.length_nil] at *; omega)))⟩ : Fits _ _ _ (fun xx => prevote6_f xx v))))) ?_
      intro w11 hx11
      have hE := hE.trans hx11
      have hR_c := hR_c.ext hx11
      have hB1 := hB1.ext hx11
      have hB2 := hB2.ext hx11
      have hB5 := hB5.ext hx11
      have hB6 := hB6.ext hx11
      refine L.val rfl (op_and rfl rfl rfl rfl) ?_
      refine L.val rfl (op_assign rfl rfl) ?_
      refine L.nil ?_
      refine thenF_nor ?_
      refine W.ret ?_
      exact end_ret1 (v := (.bool ((supported_f m_c q_c v c (fun xx => prevote3_f xx v)) && (c.any (fun xx => prevote6_f xx v))))) rfl rfl ⟨by simp only [prevote_f, hc3, hc9, cond_false], hE⟩

def precommit3s_f (x : Vt) (pa : Vt → Bool) (v : Vt) (y : Vt) : Bool := bif (!(pa x)) || (!(has_f v.support x.signer)) then false else !(same_f y x)
set_option maxRecDepth 100000 in
theorem precommit3s_ok {x : Vt} {q_pa : Addr} {fv_pa : Value} {pa : Vt → Bool} {p_v : Addr} {v : Vt} {bf b_y : Nat} {y : Vt}  {w : World} (hq_pa : Cells w q_pa [fv_pa]) (hf_pa : Fits Try.prog w fv_pa pa) (hp_v : Cells w p_v (Enc.cells v)) (hfst : Box w bf 95 [.pointer (some ⟨b_y, 0, none⟩)]) (hby : Box w b_y 28 (Enc.cells y)) : Gives Try.prog 85 #[(Enc.val (x : Vt)), (.pointer (some q_pa)), (.pointer (some p_v)), (.pointer (some ⟨bf, 0, none⟩))] w fun u w' => u = (.bool (precommit3s_f x pa v y)) ∧ Ext w w' := by
  have hE : Ext w w := Ext.refl w
  refine gives_of_W Try.func85 rfl Try.ntmps85 rfl ?_
  refine W.seq ?_
  refine W.region (by rfl) ?_
  refine L.step rfl (op_box (cs := (Enc.cells (x : Vt))) rfl rfl rfl) ?_
  rintro _ w1 ⟨b1, rfl, hb1, hB1, hx1⟩
  have hE := hE.trans hx1
  have hq_pa := hq_pa.ext hx1
  have hf_pa := hf_pa.ext hx1
  have hp_v := hp_v.ext hx1
  have hfst := hfst.ext hx1
  have hby := hby.ext hx1
  refine L.val (v := (.bool false)) rfl (op_assign rfl rfl) ?_
  refine L.nil ?_
  refine thenF_nor ?_
  refine W.seq ?_
  refine W.seq ?_
  refine W.region (by rfl) ?_
  refine L.val rfl (op_load1 rfl rfl one65 (hq_pa.one (n := 0) rfl)) ?_
  refine L.val rfl (op_load (v := (x : Vt)) rfl rfl ty28 hB1.cells) ?_
  refine L.call (v := (.bool (pa x))) rfl (op_fits (a := (x : Vt)) hf_pa rfl rfl rfl) ?_
  intro w2 hx2
  have hE := hE.trans hx2
  have hq_pa := hq_pa.ext hx2
  have hf_pa := hf_pa.ext hx2
  have hp_v := hp_v.ext hx2
  have hfst := hfst.ext hx2
  have hby := hby.ext hx2
  have hB1 := hB1.ext hx2
  refine L.val rfl (op_not rfl rfl) ?_
  refine L.val rfl (op_move rfl rfl) ?_
  refine L.guardv (v := (.pointer (some (p_v.add 5)))) (wanted_no rfl rfl rfl) (fun hg => (op_field rfl rfl fo28_5 rfl)) ?_
  refine L.guardv (v := (.int .i64 v.support)) (wanted_no rfl rfl rfl) (fun hg => (op_load1 rfl ((show _ = vif _ (.pointer (some (p_v.add 5))) from rfl).trans (vif_t hg).symm) one22 (hp_v.one (n := 5) rfl))) ?_
  refine L.guardv (v := (.pointer (some ⟨b1, 4, none⟩))) (wanted_no rfl rfl rfl) (fun hg => (op_field rfl rfl fo28_4 rfl)) ?_
  refine L.guardv (v := (.int .i64 x.signer)) (wanted_no rfl rfl rfl) (fun hg => (op_load1 rfl ((show _ = vif _ (.pointer (some ⟨b1, 4, none⟩)) from rfl).trans (vif_t hg).symm) one3 (hB1.cells.one (n := 4) rfl))) ?_
  refine L.guardc (v := (.bool (has_f v.support x.signer))) (wanted_no rfl rfl rfl) (fun hg => (OpS.call (op_call rfl (argsC ((show _ = vif _ (.int .i64 v.support) from rfl).trans (vif_t hg).symm) (argsC ((show _ = vif _ (.int .i64 x.signer) from rfl).trans (vif_t hg).symm) argsN)) Try.func54 rfl rfl) Has_ok)) ?_
  intro w3 hx3
  have hE := hE.trans hx3
  have hq_pa := hq_pa.ext hx3
  have hf_pa := hf_pa.ext hx3
  have hp_v := hp_v.ext hx3
  have hfst := hfst.ext hx3
  have hby := hby.ext hx3
  have hB1 := hB1.ext hx3
  refine L.guardv (v := (.bool (!(has_f v.support x.signer)))) (wanted_no rfl rfl rfl) (fun hg => (op_not rfl ((show _ = vif _ (.bool (has_f v.support x.signer)) from rfl).trans (vif_t hg).symm))) ?_
  refine L.val rfl (op_or rfl rfl rfl rfl) ?_
  refine L.nil ?_
  refine thenF_nor ?_
  refine W.cond (t := (!(pa x)) || (!(has_f v.support x.signer))) rfl (fun hc4 => ?_) (fun hc4 => ?_)
  · have hp4 := hc4
    simp only [Bool.and_eq_true, Bool.or_eq_true, Bool.and_eq_false_iff, Bool.or_eq_false_iff, Bool.not_eq_true', Bool.not_eq_false', decide_eq_true_eq, decide_eq_false_iff_not] at hp4
    refine W.seq ?_
    refine W.region (by rfl) ?_
    refine L.val (v := (.bool false)) rfl (op_assign rfl rfl) ?_
    refine L.nil ?_
    refine thenF_nor ?_
    refine W.ret ?_
    refine thenF_ret ?_
    exact end_ret1 (v := (.bool false)) rfl rfl ⟨by simp only [precommit3s_f, hc4, cond_true], hE⟩
  · have hp4 := hc4
    simp only [Bool.and_eq_true, Bool.or_eq_true, Bool.and_eq_false_iff, Bool.or_eq_false_iff, Bool.not_eq_true', Bool.not_eq_false', decide_eq_true_eq, decide_eq_false_iff_not] at hp4
    refine W.skip ?_
    refine thenF_nor ?_
    refine W.seq ?_
    refine W.seq ?_
    refine W.region (by rfl) ?_
    refine L.val rfl (op_load1 rfl rfl one95 (hfst.cells.one (n := 0) rfl)) ?_
    refine L.val (v := (.bool false)) rfl (op_eqlp (a := some ⟨b_y, 0, none⟩) rfl rfl rfl Try.underlying95) ?_
    refine L.nil ?_
    refine thenF_nor ?_
    refine W.cond (t := false) rfl (fun h => nomatch h) (fun _ => ?_)
    refine W.skip ?_
    refine thenF_nor ?_
    refine W.seq ?_
    refine W.drawS [Sp.eq (.pointer (some ⟨b_y, 0, none⟩)), Sp.eq (.pointer (some ⟨b_y, 0, none⟩)), Sp.eq (Enc.val (y : Vt)), Sp.eq (Enc.val (x : Vt)), Sp.eq (.bool (same_f y x)), Sp.eq (.bool (!(same_f y x))), Sp.eq (.bool (!(same_f y x)))] mixed (by rfl) (Obls.cons ?_ (Obls.cons ?_ (Obls.cons ?_ (Obls.cons ?_ (Obls.cons ?_ (Obls.cons ?_ (Obls.cons ?_ Obls.nil))))))) ?_
    · intro f6 w6 hx6 ho6 hd6
      have d6_s3 : f6 3 = (.pointer (some ⟨bf, 0, none⟩)) := ho6 3 rfl
      have hq_pa := hq_pa.ext hx6
      have hf_pa := hf_pa.ext hx6
      have hp_v := hp_v.ext hx6
      have hfst := hfst.ext hx6
      have hby := hby.ext hx6
      have hB1 := hB1.ext hx6
      exact D.val rfl (op_load1 rfl d6_s3 one95 (hfst.cells.one (n := 0) rfl))
    · intro f7 w7 hx7 ho7 hd7
      have d7_0 : f7 20 = (.pointer (some ⟨b_y, 0, none⟩)) := hd7 0 rfl
      exact D.val rfl (op_nilCheck rfl d7_0)
    · intro f8 w8 hx8 ho8 hd8
      have d8_1 : f8 21 = (.pointer (some ⟨b_y, 0, none⟩)) := hd8 1 rfl
      have hq_pa := hq_pa.ext hx8
      have hf_pa := hf_pa.ext hx8
      have hp_v := hp_v.ext hx8
      have hfst := hfst.ext hx8
      have hby := hby.ext hx8
      have hB1 := hB1.ext hx8
      exact D.val rfl (op_load (v := (y : Vt)) rfl d8_1 ty28 hby.cells)
    · intro f9 w9 hx9 ho9 hd9
      have d9_s4 : f9 4 = (.pointer (some ⟨b1, 0, none⟩)) := ho9 4 rfl
      have hq_pa := hq_pa.ext hx9
      have hf_pa := hf_pa.ext hx9
      have hp_v := hp_v.ext hx9
      have hfst := hfst.ext hx9
      have hby := hby.ext hx9
      have hB1 := hB1.ext hx9
      exact D.val rfl (op_load (v := (x : Vt)) rfl d9_s4 ty28 hB1.cells)
    · intro f10 w10 hx10 ho10 hd10
      have d10_2 : f10 22 = (Enc.val (y : Vt)) := hd10 2 rfl
      have d10_3 : f10 23 = (Enc.val (x : Vt)) := hd10 3 rfl
      have hq_pa := hq_pa.ext hx10
      have hf_pa := hf_pa.ext hx10
      have hp_v := hp_v.ext hx10
      have hfst := hfst.ext hx10
      have hby := hby.ext hx10
      have hB1 := hB1.ext hx10
      exact D.call (R := (Sp.eq (.bool (same_f y x))).p) rfl (OpS.call (op_call rfl (argsC d10_2 (argsC d10_3 argsN)) Try.func57 rfl rfl) same_ok)
    · intro f11 w11 hx11 ho11 hd11
      have d11_4 : f11 24 = (.bool (same_f y x)) := hd11 4 rfl
      exact D.val rfl (op_not rfl d11_4)
    · intro f12 w12 hx12 ho12 hd12
      have d12_5 : f12 25 = (.bool (!(same_f y x))) := hd12 5 rfl
      exact D.val rfl (op_assign rfl d12_5)
    intro f13 w13 hx13 ho13 hr13
    have s0 : f13 0 = (Enc.val (x : Vt)) := ho13 0 rfl
    have s1 : f13 1 = (.pointer (some q_pa)) := ho13 1 rfl
    have s2 : f13 2 = (.pointer (some p_v)) := ho13 2 rfl
    have s3 : f13 3 = (.pointer (some ⟨bf, 0, none⟩)) := ho13 3 rfl
    have s4 : f13 4 = (.pointer (some ⟨b1, 0, none⟩)) := ho13 4 rfl
    have s17 : f13 17 = (.bool ((!(pa x)) || (!(has_f v.support x.signer)))) := ho13 17 rfl
    have s19 : f13 19 = (.bool false) := ho13 19 rfl
    have s5 : f13 5 = (.bool (!(same_f y x))) := hr13 6 (by decide)
    have hE := hE.trans hx13
    have hq_pa := hq_pa.ext hx13
    have hf_pa := hf_pa.ext hx13
    have hp_v := hp_v.ext hx13
    have hfst := hfst.ext hx13
    have hby := hby.ext hx13
    have hB1 := hB1.ext hx13
    refine thenF_nor ?_
    refine W.ret ?_
    exact end_ret1 (v := (.bool (!(same_f y x)))) rfl s5 ⟨by simp only [precommit3s_f, hc4, cond_false], hE⟩

def precommit3n_f (x : Vt) (pa : Vt → Bool) (v : Vt) : Bool := bif (!(pa x)) || (!(has_f v.support x.signer)) then false else !(same_f x x)
set_option maxRecDepth 100000 in
theorem precommit3n_ok {x : Vt} {q_pa : Addr} {fv_pa : Value} {pa : Vt → Bool} {p_v : Addr} {v : Vt} {bf : Nat}  {wB w : World} (hq_pa : Cells wB q_pa [fv_pa]) (hf_pa : Fits Try.prog wB fv_pa pa) (hp_v : Cells wB p_v (Enc.cells v)) (hfst : Box w bf 95 [.pointer none]) (hEB : Ext wB w) (hbf : wB.heap.size ≤ bf) : Gives Try.prog 85 #[(Enc.val (x : Vt)), (.pointer (some q_pa)), (.pointer (some p_v)), (.pointer (some ⟨bf, 0, none⟩))] w fun u w' => u = .bool (precommit3n_f x pa v) ∧ Ext wB w' ∧ (((!pa x) || (!has_f v.support x.signer)) = true ∧ Box w' bf 95 [.pointer none] ∨ ((!pa x) || (!has_f v.support x.signer)) = false ∧ ∃ b, bf < b ∧ Box w' bf 95 [.pointer (some ⟨b, 0, none⟩)] ∧ Box w' b 28 (Enc.cells x)) := by
  refine gives_of_W Try.func85 rfl Try.ntmps85 rfl ?_
  have S0_hq_pa := hq_pa
  have S0_hf_pa := hf_pa
  have S0_hp_v := hp_v
  have hS0 := hEB
  have hq_pa := hq_pa.ext hS0
  have hf_pa := hf_pa.ext hS0
  have hp_v := hp_v.ext hS0
  have hltw := hfst.lt
  refine W.seq ?_
  refine W.region (by rfl) ?_
  refine L.step rfl (op_box (cs := (Enc.cells (x : Vt))) rfl rfl rfl) ?_
  rintro _ w1 ⟨b1, rfl, hb1, hB1, hx1⟩
  have hS0 := hS0.trans hx1
  have hq_pa := hq_pa.ext hx1
  have hf_pa := hf_pa.ext hx1
  have hp_v := hp_v.ext hx1
  have hfst := hfst.ext hx1
  refine L.val (v := (.bool false)) rfl (op_assign rfl rfl) ?_
  refine L.nil ?_
  refine thenF_nor ?_
  refine W.seq ?_
  refine W.seq ?_
  refine W.region (by rfl) ?_
  refine L.val rfl (op_load1 rfl rfl one65 (hq_pa.one (n := 0) rfl)) ?_
  refine L.val rfl (op_load (v := (x : Vt)) rfl rfl ty28 hB1.cells) ?_
  refine L.call (v := (.bool (pa x))) rfl (op_fits (a := (x : Vt)) hf_pa rfl rfl rfl) ?_
  intro w2 hx2
  have hS0 := hS0.trans hx2
  have hq_pa := hq_pa.ext hx2
  have hf_pa := hf_pa.ext hx2
  have hp_v := hp_v.ext hx2
  have hfst := hfst.ext hx2
  have hB1 := hB1.ext hx2
  refine L.val rfl (op_not rfl rfl) ?_
  refine L.val rfl (op_move rfl rfl) ?_
  refine L.guardv (v := (.pointer (some (p_v.add 5)))) (wanted_no rfl rfl rfl) (fun hg => (op_field rfl rfl fo28_5 rfl)) ?_
  refine L.guardv (v := (.int .i64 v.support)) (wanted_no rfl rfl rfl) (fun hg => (op_load1 rfl ((show _ = vif _ (.pointer (some (p_v.add 5))) from rfl).trans (vif_t hg).symm) one22 (hp_v.one (n := 5) rfl))) ?_
  refine L.guardv (v := (.pointer (some ⟨b1, 4, none⟩))) (wanted_no rfl rfl rfl) (fun hg => (op_field rfl rfl fo28_4 rfl)) ?_
  refine L.guardv (v := (.int .i64 x.signer)) (wanted_no rfl rfl rfl) (fun hg => (op_load1 rfl ((show _ = vif _ (.pointer (some ⟨b1, 4, none⟩)) from rfl).trans (vif_t hg).symm) one3 (hB1.cells.one (n := 4) rfl))) ?_
  refine L.guardc (v := (.bool (has_f v.support x.signer))) (wanted_no rfl rfl rfl) (fun hg => (OpS.call (op_call rfl (argsC ((show _ = vif _ (.int .i64 v.support) from rfl).trans (vif_t hg).symm) (argsC ((show _ = vif _ (.int .i64 x.signer) from rfl).trans (vif_t hg).symm) argsN)) Try.func54 rfl rfl) Has_ok)) ?_
  intro w3 hx3
  have hS0 := hS0.trans hx3
  have hq_pa := hq_pa.ext hx3
  have hf_pa := hf_pa.ext hx3
  have hp_v := hp_v.ext hx3
  have hfst := hfst.ext hx3
  have hB1 := hB1.ext hx3
  refine L.guardv (v := (.bool (!(has_f v.support x.signer)))) (wanted_no rfl rfl rfl) (fun hg => (op_not rfl ((show _ = vif _ (.bool (has_f v.support x.signer)) from rfl).trans (vif_t hg).symm))) ?_
  refine L.val rfl (op_or rfl rfl rfl rfl) ?_
  refine L.nil ?_
  refine thenF_nor ?_
  refine W.cond (t := (!(pa x)) || (!(has_f v.support x.signer))) rfl (fun hc4 => ?_) (fun hc4 => ?_)
  · have hp4 := hc4
    simp only [Bool.and_eq_true, Bool.or_eq_true, Bool.and_eq_false_iff, Bool.or_eq_false_iff, Bool.not_eq_true', Bool.not_eq_false', decide_eq_true_eq, decide_eq_false_iff_not] at hp4
    refine W.seq ?_
    refine W.region (by rfl) ?_
    refine L.val (v := (.bool false)) rfl (op_assign rfl rfl) ?_
    refine L.nil ?_
    refine thenF_nor ?_
    refine W.ret ?_
    refine thenF_ret ?_
    exact end_ret1 (v := (.bool false)) rfl rfl ⟨by simp only [precommit3n_f, hc4, cond_true], hS0, Or.inl ⟨hc4, hfst⟩⟩
  · have hp4 := hc4
    simp only [Bool.and_eq_true, Bool.or_eq_true, Bool.and_eq_false_iff, Bool.or_eq_false_iff, Bool.not_eq_true', Bool.not_eq_false', decide_eq_true_eq, decide_eq_false_iff_not] at hp4
    refine W.skip ?_
    refine thenF_nor ?_
    refine W.seq ?_
    refine W.seq ?_
    refine W.region (by rfl) ?_
    refine L.val rfl (op_load1 rfl rfl one95 (hfst.cells.one (n := 0) rfl)) ?_
    refine L.val (v := (.bool true)) rfl (op_eqlp (a := none) rfl rfl rfl Try.underlying95) ?_
    refine L.nil ?_
    refine thenF_nor ?_
    refine W.cond (t := true) rfl (fun _ => ?_) (fun h => nomatch h)
    refine W.region (by rfl) ?_
    refine L.step rfl (op_put (v := (.pointer (some ⟨b1, 0, none⟩))) rfl rfl rfl si95 hfst (by decide) rfl rfl) ?_
    rintro _ w5 ⟨hB5, hg5⟩
    have hbx := hB1.far hg5 (by simp; omega)
    have hlt := hfst.lt
    have hbl : bf < b1 := by omega
    have hS0 := hS0.grown hg5 (by intro k hk; cases hk; exact hbf)
    have hq_pa := S0_hq_pa.ext hS0
    have hf_pa := S0_hf_pa.ext hS0
    have hp_v := S0_hp_v.ext hS0
    have hfst := hB5
    have hB1 := hbx
    refine L.nil ?_
    refine thenF_nor ?_
    refine W.seq ?_
    refine W.drawS [Sp.eq (.pointer (some ⟨b1, 0, none⟩)), Sp.eq (.pointer (some ⟨b1, 0, none⟩)), Sp.eq (Enc.val (x : Vt)), Sp.eq (Enc.val (x : Vt)), Sp.eq (.bool (same_f x x)), Sp.eq (.bool (!(same_f x x))), Sp.eq (.bool (!(same_f x x)))] mixed (by rfl) (Obls.cons ?_ (Obls.cons ?_ (Obls.cons ?_ (Obls.cons ?_ (Obls.cons ?_ (Obls.cons ?_ (Obls.cons ?_ Obls.nil))))))) ?_
    · intro f7 w7 hx7 ho7 hd7
      have d7_s3 : f7 3 = (.pointer (some ⟨bf, 0, none⟩)) := ho7 3 rfl
      have hq_pa := hq_pa.ext hx7
      have hf_pa := hf_pa.ext hx7
      have hp_v := hp_v.ext hx7
      have hfst := hfst.ext hx7
      have hB1 := hB1.ext hx7
      exact D.val rfl (op_load1 rfl d7_s3 one95 (hfst.cells.one (n := 0) rfl))
    · intro f8 w8 hx8 ho8 hd8
      have d8_0 : f8 20 = (.pointer (some ⟨b1, 0, none⟩)) := hd8 0 rfl
      exact D.val rfl (op_nilCheck rfl d8_0)
    · intro f9 w9 hx9 ho9 hd9
      have d9_1 : f9 21 = (.pointer (some ⟨b1, 0, none⟩)) := hd9 1 rfl
      have hq_pa := hq_pa.ext hx9
      have hf_pa := hf_pa.ext hx9
      have hp_v := hp_v.ext hx9
      have hfst := hfst.ext hx9
      have hB1 := hB1.ext hx9
      exact D.val rfl (op_load (v := (x : Vt)) rfl d9_1 ty28 hB1.cells)
    · intro f10 w10 hx10 ho10 hd10
      have d10_s4 : f10 4 = (.pointer (some ⟨b1, 0, none⟩)) := ho10 4 rfl
      have hq_pa := hq_pa.ext hx10
      have hf_pa := hf_pa.ext hx10
      have hp_v := hp_v.ext hx10
      have hfst := hfst.ext hx10
      have hB1 := hB1.ext hx10
      exact D.val rfl (op_load (v := (x : Vt)) rfl d10_s4 ty28 hB1.cells)
    · intro f11 w11 hx11 ho11 hd11
      have d11_2 : f11 22 = (Enc.val (x : Vt)) := hd11 2 rfl
      have d11_3 : f11 23 = (Enc.val (x : Vt)) := hd11 3 rfl
      have hq_pa := hq_pa.ext hx11
      have hf_pa := hf_pa.ext hx11
      have hp_v := hp_v.ext hx11
      have hfst := hfst.ext hx11
      have hB1 := hB1.ext hx11
      exact D.call (R := (Sp.eq (.bool (same_f x x))).p) rfl (OpS.call (op_call rfl (argsC d11_2 (argsC d11_3 argsN)) Try.func57 rfl rfl) same_ok)
    · intro f12 w12 hx12 ho12 hd12
      have d12_4 : f12 24 = (.bool (same_f x x)) := hd12 4 rfl
      exact D.val rfl (op_not rfl d12_4)
    · intro f13 w13 hx13 ho13 hd13
      have d13_5 : f13 25 = (.bool (!(same_f x x))) := hd13 5 rfl
      exact D.val rfl (op_assign rfl d13_5)
    intro f14 w14 hx14 ho14 hr14
    have s0 : f14 0 = (Enc.val (x : Vt)) := ho14 0 rfl
    have s1 : f14 1 = (.pointer (some q_pa)) := ho14 1 rfl
    have s2 : f14 2 = (.pointer (some p_v)) := ho14 2 rfl
    have s3 : f14 3 = (.pointer (some ⟨bf, 0, none⟩)) := ho14 3 rfl
    have s4 : f14 4 = (.pointer (some ⟨b1, 0, none⟩)) := ho14 4 rfl
    have s17 : f14 17 = (.bool ((!(pa x)) || (!(has_f v.support x.signer)))) := ho14 17 rfl
    have s19 : f14 19 = (.bool true) := ho14 19 rfl
    have s5 : f14 5 = (.bool (!(same_f x x))) := hr14 6 (by decide)
    have hS0 := hS0.trans hx14
    have hq_pa := hq_pa.ext hx14
    have hf_pa := hf_pa.ext hx14
    have hp_v := hp_v.ext hx14
    have hfst := hfst.ext hx14
    have hB1 := hB1.ext hx14
    refine thenF_nor ?_
    refine W.ret ?_
    exact end_ret1 (v := (.bool (!(same_f x x)))) rfl s5 ⟨by simp only [precommit3n_f, hc4, cond_false], hS0, Or.inr ⟨hc4, _, hbl, hfst, hB1⟩⟩

end Go.Proofs.Ytdknjfmjddlphaa
