/-
  Contracts of functions of the program, each with its walk in the logic of frames. Printed by a program of this session (wip/gen) from the translation.
-/
import Derived.Test.YtdknjfmjddlphaaPre3
set_option linter.unusedSimpArgs false
set_option linter.unusedVariables false
namespace Go.Proofs.Ytdknjfmjddlphaa
open Go Go.Fk

def precommit_f (m_c : Int) (q_c : Int) (c : List Vt) (v : Vt) : Bool := bif !decide (v.choice = 2) then supported_f m_c q_c v c (fun xx => precommit2_f xx (fun xx => precommit1_f xx v) v) else (bif !(supported_f m_c q_c v c (fun xx => precommit1_f xx v)) then false else anySt (pre3q v) [] c)
set_option maxRecDepth 100000 in
theorem precommit_ok {m_c q_c : Int} {A_c : Option Addr} {c_c lo_c hi_c : Nat} {c : List Vt} {v : Vt}  {w : World} (hR_c : Rd w lo_c hi_c A_c c) : Gives Try.prog 59 #[(.agg #[(.int .i64 m_c), (.int .i64 q_c), (.slice A_c c.length c_c)]), (Enc.val (v : Vt))] w fun u w' => u = (.bool (precommit_f m_c q_c c v)) ∧ Ext w w' := by
  have hE : Ext w w := Ext.refl w
  have hlen_c := hR_c.len
  refine gives_of_W Try.func59 rfl Try.ntmps59 rfl ?_
  refine W.seq ?_
  refine W.region (by rfl) ?_
  refine L.step rfl (op_box (cs := [(.int .i64 m_c), (.int .i64 q_c), (.slice A_c c.length c_c)]) rfl rfl rfl) ?_
  rintro _ w1 ⟨b1, rfl, hb1, hB1, hx1⟩
  have hE := hE.trans hx1
  have hR_c := hR_c.ext hx1
  refine L.step rfl (op_box (cs := (Enc.cells (v : Vt))) rfl rfl rfl) ?_
  rintro _ w2 ⟨b2, rfl, hb2, hB2, hx2⟩
  have hE := hE.trans hx2
  have hR_c := hR_c.ext hx2
  have hB1 := hB1.ext hx2
  refine L.val (v := (.bool false)) rfl (op_assign rfl rfl) ?_
  refine L.nil ?_
  refine thenF_nor ?_
  refine W.seq ?_
  refine W.region (by rfl) ?_
  refine L.val rfl (op_func rfl (argsC rfl argsN)) ?_
  refine L.newvar (v := (.func (.func 83) #[] #[(.pointer (some ⟨b2, 0, none⟩))])) (cs := [(.func (.func 83) #[] #[(.pointer (some ⟨b2, 0, none⟩))])]) rfl rfl rfl rfl rfl rfl (fun _ => rfl) rfl si65 zs65 (by intro u hu; simp at hu; subst hu; rfl) ?_
  intro b3 w3 hb3 hB3 hx3
  have hbb3_hE := Nat.le_trans hE.size hb3
  have hE := hE.trans hx3
  have hR_c := hR_c.ext hx3
  have hB1 := hB1.ext hx3
  have hB2 := hB2.ext hx3
  refine L.nil ?_
  refine thenF_nor ?_
  refine W.seq ?_
  refine W.seq ?_
  refine W.region (by rfl) ?_
  refine L.val rfl (op_field rfl rfl fo28_3 rfl) ?_
  refine L.val rfl (op_load1 rfl rfl one3 (hB2.cells.one (n := 3) rfl)) ?_
  refine L.val rfl (op_neq rfl rfl rfl) ?_
  refine L.nil ?_
  refine thenF_nor ?_
  refine W.cond (t := !decide (v.choice = 2)) rfl (fun hc4 => ?_) (fun hc4 => ?_)
  · have hp4 := hc4
    simp only [Bool.and_eq_true, Bool.or_eq_true, Bool.and_eq_false_iff, Bool.or_eq_false_iff, Bool.not_eq_true', Bool.not_eq_false', decide_eq_true_eq, decide_eq_false_iff_not] at hp4
    refine W.seq ?_
    refine W.region (by rfl) ?_
    refine L.val rfl (op_loadcs (cs := [(.int .i64 m_c), (.int .i64 q_c), (.slice A_c c.length c_c)]) rfl rfl ag68 si68 hB1.cells) ?_
    refine L.val rfl (op_load (v := (v : Vt)) rfl rfl ty28 hB2.cells) ?_
    refine L.val rfl (op_func rfl (argsC rfl (argsC rfl argsN))) ?_
    refine L.call (v := (.bool (supported_f m_c q_c v c (fun xx => precommit2_f xx (fun xx => precommit1_f xx v) v)))) rfl (OpS.call (op_call rfl (argsC rfl (argsC rfl (argsC rfl argsN))) Try.func76 rfl rfl) (supported_ok hR_c (⟨_, [(.pointer (some ⟨b3, 0, none⟩)), (.pointer (some ⟨b2, 0, none⟩))], _, rfl, Try.func84, rfl, rfl, fun xx ww hxx => (precommit2_ok (hB3.cells.ext hxx) (Fits.ext ((⟨_, [(.pointer (some ⟨b2, 0, none⟩))], _, rfl, Try.func83, rfl, rfl, fun xx ww hxx => (precommit1_ok (hB2.cells.ext hxx))⟩ : Fits _ _ _ (fun xx => precommit1_f xx v))) hxx) (hB2.cells.ext hxx))⟩ : Fits _ _ _ (fun xx => precommit2_f xx (fun xx => precommit1_f xx v) v)))) ?_
    intro w5 hx5
    have hE := hE.trans hx5
    have hR_c := hR_c.ext hx5
    have hB1 := hB1.ext hx5
    have hB2 := hB2.ext hx5
    have hB3 := hB3.ext hx5
    refine L.val rfl (op_assign rfl rfl) ?_
    refine L.nil ?_
    refine thenF_nor ?_
    refine W.ret ?_
    refine thenF_ret ?_
    exact end_ret1 (v := (.bool (supported_f m_c q_c v c (fun xx => precommit2_f xx (fun xx => precommit1_f xx v) v)))) rfl rfl ⟨by simp only [precommit_f, hc4, cond_true], hE⟩
  · have hp4 := hc4
    simp only [Bool.and_eq_true, Bool.or_eq_true, Bool.and_eq_false_iff, Bool.or_eq_false_iff, Bool.not_eq_true', Bool.not_eq_false', decide_eq_true_eq, decide_eq_false_iff_not] at hp4
    refine W.skip ?_
    refine thenF_nor ?_
    refine W.seq ?_
    refine W.seq ?_
    refine W.region (by rfl) ?_
    refine L.val rfl (op_loadcs (cs := [(.int .i64 m_c), (.int .i64 q_c), (.slice A_c c.length c_c)]) rfl rfl ag68 si68 hB1.cells) ?_
    refine L.val rfl (op_load (v := (v : Vt)) rfl rfl ty28 hB2.cells) ?_
    refine L.val rfl (op_load1 rfl rfl one65 (hB3.cells.one (n := 0) rfl)) ?_
    refine L.call (v := (.bool (supported_f m_c q_c v c (fun xx => precommit1_f xx v)))) rfl (OpS.call (op_call rfl (argsC rfl (argsC rfl (argsC rfl argsN))) Try.func76 rfl rfl) (supported_ok hR_c (⟨_, [(.pointer (some ⟨b2, 0, none⟩))], _, rfl, Try.func83, rfl, rfl, fun xx ww hxx => (precommit1_ok (hB2.cells.ext hxx))⟩ : Fits _ _ _ (fun xx => precommit1_f xx v)))) ?_
    intro w6 hx6
    have hE := hE.trans hx6
    have hR_c := hR_c.ext hx6
    have hB1 := hB1.ext hx6
    have hB2 := hB2.ext hx6
    have hB3 := hB3.ext hx6
    refine L.val rfl (op_not rfl rfl) ?_
    refine L.nil ?_
    refine thenF_nor ?_
    refine W.cond (t := !(supported_f m_c q_c v c (fun xx => precommit1_f xx v))) rfl (fun hc7 => ?_) (fun hc7 => ?_)
    · have hp7 := hc7
      simp only [Bool.and_eq_true, Bool.or_eq_true, Bool.and_eq_false_iff, Bool.or_eq_false_iff, Bool.not_eq_true', Bool.not_eq_false', decide_eq_true_eq, decide_eq_false_iff_not] at hp7
      refine W.seq ?_
      refine W.region (by rfl) ?_
      refine L.val (v := (.bool false)) rfl (op_assign rfl rfl) ?_
      refine L.nil ?_
      refine thenF_nor ?_
      refine W.ret ?_
      refine thenF_ret ?_
      exact end_ret1 (v := (.bool false)) rfl rfl ⟨by simp only [precommit_f, hc4, hc7, cond_true, cond_false], hE⟩
    · have hp7 := hc7
      simp only [Bool.and_eq_true, Bool.or_eq_true, Bool.and_eq_false_iff, Bool.or_eq_false_iff, Bool.not_eq_true', Bool.not_eq_false', decide_eq_true_eq, decide_eq_false_iff_not] at hp7
      refine W.skip ?_
      refine thenF_nor ?_
      refine W.seq ?_
      have S8_hR_c := hR_c
      have S8_hB1 := hB1
      have S8_hB2 := hB2
      have S8_hB3 := hB3
      have S8_hE := hE
      have hS8 : Ext w6 w6 := Ext.refl _
      refine W.region (by rfl) ?_
      refine L.step rfl (op_alloc (z := (.pointer none)) (cs := [(.pointer none)]) rfl (by kernel_rfl) rfl) ?_
      rintro _ w9 ⟨b9, rfl, hb9, hB9, hx9⟩
      have hbb9_hE := Nat.le_trans hE.size hb9
      have hbb9_hS8 := Nat.le_trans hS8.size hb9
      have hE := hE.trans hx9
      have hS8 := hS8.trans hx9
      have hR_c := hR_c.ext hx9
      have hB1 := hB1.ext hx9
      have hB2 := hB2.ext hx9
      have hB3 := hB3.ext hx9
      refine L.nil ?_
      refine thenF_nor ?_
      refine W.seq ?_
      refine W.region (by rfl) ?_
      refine L.val rfl (op_loadcs (cs := [(.int .i64 m_c), (.int .i64 q_c), (.slice A_c c.length c_c)]) rfl rfl ag68 si68 hB1.cells) ?_
      refine L.val rfl (op_func rfl (argsC rfl (argsC rfl (argsC rfl argsN)))) ?_
      refine L.step rfl (OpS.call (op_call rfl (argsC rfl (argsC rfl argsN)) Try.func55 rfl rfl) (pre3_has S8_hR_c (S8_hB3.cells) (⟨_, [(.pointer (some ⟨b2, 0, none⟩))], _, rfl, Try.func83, rfl, rfl, fun xx ww hxx => (precommit1_ok (S8_hB2.cells.ext hxx))⟩ : Fits _ _ _ (fun xx => precommit1_f xx v)) (S8_hB2.cells) hb9 hS8 hB9)) ?_
      rintro _ w10 ⟨rfl, hS8⟩
      have hR_c := S8_hR_c.ext hS8
      have hB1 := S8_hB1.ext hS8
      have hB2 := S8_hB2.ext hS8
      have hB3 := S8_hB3.ext hS8
      have hE := S8_hE.trans hS8
      refine L.val rfl (op_assign rfl rfl) ?_
      refine L.nil ?_
      refine thenF_nor ?_
      refine W.ret ?_
      exact end_ret1 (v := (.bool (anySt (pre3q v) [] c))) rfl rfl ⟨by simp only [precommit_f, hc4, hc7, cond_false], hE⟩

end Go.Proofs.Ytdknjfmjddlphaa
