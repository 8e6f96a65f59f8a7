/-
  G1, G2, Defs1, IDs, G3, HasSt, Pre3, G4, Masks, Defs2, as one text.
-/
import Derived.Test.YtdknjfmjddlphaaZb
import Derived.Test.YtdknjfmjddlphaaZa
import Derived.RangeFuncBox
import Derived.RangeFuncLeaves
import Derived.RangeFuncNested
import Derived.Shelf.Abstract
import Derived.WalkKit
import Derived.OwnWalkIn
import Derived.TacticsInMore
import Derived.LoopNIn
import Derived.LoopIn
import Derived.Maps.AppendAt
/-
  Contracts of functions of the program, each with its walk in the logic of frames. Printed by a program of this session (wip/gen) from the translation.
-/
set_option linter.unusedSimpArgs false
set_option linter.unusedVariables false
namespace Go.Proofs.Ytdknjfmjddlphaa
open Go Go.Fk

def quorum_f (n : Int) : Int := bif decide (n < 1) then 0 else n - ((n - 1) / 3)
set_option maxRecDepth 100000 in
theorem Quorum_ok {n : Int}  {w : World} (h0 : -1000 ≤ n) (h1 : n ≤ 1000) : Gives Try.prog 31 #[(.int .i64 n)] w fun u w' => u = (.int .i64 (quorum_f n)) ∧ Ext w w' := by
  have hE : Ext w w := Ext.refl w
  refine gives_of_W Try.func31 rfl Try.ntmps31 rfl ?_
  refine W.seq ?_
  refine W.region (by rfl) ?_
  refine L.val rfl (op_assign rfl rfl) ?_
  refine L.nil ?_
  refine thenF_nor ?_
  refine W.seq ?_
  refine W.seq ?_
  refine W.region (by rfl) ?_
  refine L.val rfl (op_move rfl rfl) ?_
  refine L.val rfl (op_lss rfl rfl rfl) ?_
  refine L.nil ?_
  refine thenF_nor ?_
  refine W.cond (t := decide (n < 1)) rfl (fun hc1 => ?_) (fun hc1 => ?_)
  · have hp1 := hc1
    simp only [Bool.and_eq_true, Bool.or_eq_true, Bool.and_eq_false_iff, Bool.or_eq_false_iff, Bool.not_eq_true', Bool.not_eq_false', decide_eq_true_eq, decide_eq_false_iff_not] at hp1
    refine W.seq ?_
    refine W.region (by rfl) ?_
    refine L.val rfl (op_assign rfl rfl) ?_
    refine L.nil ?_
    refine thenF_nor ?_
    refine W.ret ?_
    refine thenF_ret ?_
    exact end_ret1 (v := (.int .i64 0)) rfl rfl ⟨by simp only [quorum_f, hc1, cond_true], hE⟩
  · have hp1 := hc1
    simp only [Bool.and_eq_true, Bool.or_eq_true, Bool.and_eq_false_iff, Bool.or_eq_false_iff, Bool.not_eq_true', Bool.not_eq_false', decide_eq_true_eq, decide_eq_false_iff_not] at hp1
    refine W.skip ?_
    refine thenF_nor ?_
    refine W.seq ?_
    refine W.region (by rfl) ?_
    refine L.val rfl (op_move rfl rfl) ?_
    refine L.val rfl (op_move rfl rfl) ?_
    refine L.val rfl (op_sub rfl rfl rfl rfl (by omega)) ?_
    refine L.val rfl (op_quo rfl rfl rfl (by omega) (by omega) (by omega)) ?_
    refine L.val rfl (op_sub rfl rfl rfl rfl (by omega)) ?_
    refine L.val rfl (op_assign rfl rfl) ?_
    refine L.nil ?_
    refine thenF_nor ?_
    refine W.ret ?_
    exact end_ret1 (v := (.int .i64 (n - ((n - 1) / 3)))) rfl rfl ⟨by simp only [quorum_f, hc1, cond_false], hE⟩

def third_f (n : Int) : Int := bif decide (n < 1) then 0 else ((n - 1) / 3) + 1
set_option maxRecDepth 100000 in
theorem Third_ok {n : Int}  {w : World} (h0 : -1000 ≤ n) (h1 : n ≤ 1000) : Gives Try.prog 37 #[(.int .i64 n)] w fun u w' => u = (.int .i64 (third_f n)) ∧ Ext w w' := by
  have hE : Ext w w := Ext.refl w
  refine gives_of_W Try.func37 rfl Try.ntmps37 rfl ?_
  refine W.seq ?_
  refine W.region (by rfl) ?_
  refine L.val rfl (op_assign rfl rfl) ?_
  refine L.nil ?_
  refine thenF_nor ?_
  refine W.seq ?_
  refine W.seq ?_
  refine W.region (by rfl) ?_
  refine L.val rfl (op_move rfl rfl) ?_
  refine L.val rfl (op_lss rfl rfl rfl) ?_
  refine L.nil ?_
  refine thenF_nor ?_
  refine W.cond (t := decide (n < 1)) rfl (fun hc1 => ?_) (fun hc1 => ?_)
  · have hp1 := hc1
    simp only [Bool.and_eq_true, Bool.or_eq_true, Bool.and_eq_false_iff, Bool.or_eq_false_iff, Bool.not_eq_true', Bool.not_eq_false', decide_eq_true_eq, decide_eq_false_iff_not] at hp1
    refine W.seq ?_
    refine W.region (by rfl) ?_
    refine L.val rfl (op_assign rfl rfl) ?_
    refine L.nil ?_
    refine thenF_nor ?_
    refine W.ret ?_
    refine thenF_ret ?_
    exact end_ret1 (v := (.int .i64 0)) rfl rfl ⟨by simp only [third_f, hc1, cond_true], hE⟩
  · have hp1 := hc1
    simp only [Bool.and_eq_true, Bool.or_eq_true, Bool.and_eq_false_iff, Bool.or_eq_false_iff, Bool.not_eq_true', Bool.not_eq_false', decide_eq_true_eq, decide_eq_false_iff_not] at hp1
    refine W.skip ?_
    refine thenF_nor ?_
    refine W.seq ?_
    refine W.region (by rfl) ?_
    refine L.val rfl (op_move rfl rfl) ?_
    refine L.val rfl (op_sub rfl rfl rfl rfl (by omega)) ?_
    refine L.val rfl (op_quo rfl rfl rfl (by omega) (by omega) (by omega)) ?_
    refine L.val rfl (op_add rfl rfl rfl rfl (by omega)) ?_
    refine L.val rfl (op_assign rfl rfl) ?_
    refine L.nil ?_
    refine thenF_nor ?_
    refine W.ret ?_
    exact end_ret1 (v := (.int .i64 (((n - 1) / 3) + 1))) rfl rfl ⟨by simp only [third_f, hc1, cond_false], hE⟩

def has_f (m : Int) (i : Int) : Bool := ((decide (0 ≤ i)) && (decide (i < 10))) && (decide ((iand (m / 2 ^ (i).toNat) 1) = 1))
set_option maxRecDepth 100000 in
theorem Has_ok {m : Int} {i : Int}  {w : World}  : Gives Try.prog 54 #[(.int .i64 m), (.int .i64 i)] w fun u w' => u = (.bool (has_f m i)) ∧ Ext w w' := by
  have hE : Ext w w := Ext.refl w
  refine gives_of_W Try.func54 rfl Try.ntmps54 rfl ?_
  refine W.seq ?_
  refine W.region (by rfl) ?_
  refine L.val (v := (.bool false)) rfl (op_assign rfl rfl) ?_
  refine L.nil ?_
  refine thenF_nor ?_
  refine W.seq ?_
  refine W.region (by rfl) ?_
  refine L.val rfl (op_move rfl rfl) ?_
  refine L.val rfl (op_geq rfl rfl rfl) ?_
  refine L.val rfl (op_move rfl rfl) ?_
  refine L.guardv (v := (.int .i64 i)) (wanted_yes rfl rfl rfl) (fun hg => (op_move rfl rfl)) ?_
  refine L.guardv (v := (.bool (decide (i < 10)))) (wanted_yes rfl rfl rfl) (fun hg => (op_lss rfl ((show _ = vif _ (.int .i64 i) from rfl).trans (vif_t hg).symm) rfl)) ?_
  refine L.val rfl (op_and rfl rfl rfl rfl) ?_
  refine L.val rfl (op_move rfl rfl) ?_
  refine L.guardv (v := (.int .i64 m)) (wanted_yes rfl rfl rfl) (fun hg => (op_move rfl rfl)) ?_
  refine L.guardv (v := (.int .i64 i)) (wanted_yes rfl rfl rfl) (fun hg => (op_move rfl rfl)) ?_
  refine L.guardv (v := (.int .i64 (m / 2 ^ (i).toNat))) (wanted_yes rfl rfl rfl) (fun hg => by have hp := hg; simp only [Bool.and_eq_true, Bool.or_eq_true, Bool.not_eq_true', decide_eq_true_eq, decide_eq_false_iff_not, bne_iff_ne, beq_iff_eq] at hp; exact (op_shr rfl ((show _ = vif _ (.int .i64 m) from rfl).trans (vif_t hg).symm) ((show _ = vif _ (.int .i64 i) from rfl).trans (vif_t hg).symm) (by omega) (by omega))) ?_
  refine L.guardv (v := (.int .i64 (iand (m / 2 ^ (i).toNat) 1))) (wanted_yes rfl rfl rfl) (fun hg => (op_iand rfl ((show _ = vif _ (.int .i64 (m / 2 ^ (i).toNat)) from rfl).trans (vif_t hg).symm) rfl)) ?_
  refine L.guardv (v := (.bool (decide ((iand (m / 2 ^ (i).toNat) 1) = 1)))) (wanted_yes rfl rfl rfl) (fun hg => (op_eql rfl ((show _ = vif _ (.int .i64 (iand (m / 2 ^ (i).toNat) 1)) from rfl).trans (vif_t hg).symm) rfl)) ?_
  refine L.val rfl (op_and rfl rfl rfl rfl) ?_
  refine L.val rfl (op_assign rfl rfl) ?_
  refine L.nil ?_
  refine thenF_nor ?_
  refine W.ret ?_
  exact end_ret1 (v := (.bool (((decide (0 ≤ i)) && (decide (i < 10))) && (decide ((iand (m / 2 ^ (i).toNat) 1) = 1))))) rfl rfl ⟨by simp only [has_f], hE⟩

def between_f (n : Int) (lo : Int) (hi : Int) : Bool := (decide (lo ≤ n)) && (decide (n ≤ hi))
set_option maxRecDepth 100000 in
theorem between_ok {n : Int} {lo : Int} {hi : Int}  {w : World}  : Gives Try.prog 75 #[(.int .i64 n), (.int .i64 lo), (.int .i64 hi)] w fun u w' => u = (.bool (between_f n lo hi)) ∧ Ext w w' := by
  have hE : Ext w w := Ext.refl w
  refine gives_of_W Try.func75 rfl Try.ntmps75 rfl ?_
  refine W.seq ?_
  refine W.region (by rfl) ?_
  refine L.val (v := (.bool false)) rfl (op_assign rfl rfl) ?_
  refine L.nil ?_
  refine thenF_nor ?_
  refine W.seq ?_
  refine W.region (by rfl) ?_
  refine L.val rfl (op_move rfl rfl) ?_
  refine L.val rfl (op_move rfl rfl) ?_
  refine L.val rfl (op_geq rfl rfl rfl) ?_
  refine L.val rfl (op_move rfl rfl) ?_
  refine L.guardv (v := (.int .i64 n)) (wanted_yes rfl rfl rfl) (fun hg => (op_move rfl rfl)) ?_
  refine L.guardv (v := (.int .i64 hi)) (wanted_yes rfl rfl rfl) (fun hg => (op_move rfl rfl)) ?_
  refine L.guardv (v := (.bool (decide (n ≤ hi)))) (wanted_yes rfl rfl rfl) (fun hg => (op_leq rfl ((show _ = vif _ (.int .i64 n) from rfl).trans (vif_t hg).symm) ((show _ = vif _ (.int .i64 hi) from rfl).trans (vif_t hg).symm))) ?_
  refine L.val rfl (op_and rfl rfl rfl rfl) ?_
  refine L.val rfl (op_assign rfl rfl) ?_
  refine L.nil ?_
  refine thenF_nor ?_
  refine W.ret ?_
  exact end_ret1 (v := (.bool ((decide (lo ≤ n)) && (decide (n ≤ hi))))) rfl rfl ⟨by simp only [between_f], hE⟩

def sameKey_f (a : Vt) (b : Vt) : Bool := ((((decide (a.kind = b.kind)) && (decide (a.parent = b.parent))) && (decide (a.slot = b.slot))) && (decide (a.round = b.round))) && (decide (a.signer = b.signer))
set_option maxRecDepth 100000 in
theorem SameKey_ok {a : Vt} {b : Vt}  {w : World}  : Gives Try.prog 67 #[(Enc.val (a : Vt)), (Enc.val (b : Vt))] w fun u w' => u = (.bool (sameKey_f a b)) ∧ Ext w w' := by
  have hE : Ext w w := Ext.refl w
  refine gives_of_W Try.func67 rfl Try.ntmps67 rfl ?_
  refine W.seq ?_
  refine W.region (by rfl) ?_
  refine L.step rfl (op_box (cs := (Enc.cells (a : Vt))) rfl rfl rfl) ?_
  rintro _ w1 ⟨b1, rfl, hb1, hB1, hx1⟩
  have hE := hE.trans hx1
  refine L.step rfl (op_box (cs := (Enc.cells (b : Vt))) rfl rfl rfl) ?_
  rintro _ w2 ⟨b2, rfl, hb2, hB2, hx2⟩
  have hE := hE.trans hx2
  have hB1 := hB1.ext hx2
  refine L.val (v := (.bool false)) rfl (op_assign rfl rfl) ?_
  refine L.nil ?_
  refine thenF_nor ?_
  refine W.seq ?_
  refine W.region (by rfl) ?_
  refine L.val rfl (op_field rfl rfl fo28_0 rfl) ?_
  refine L.val rfl (op_load1 rfl rfl one3 (hB1.cells.one (n := 0) rfl)) ?_
  refine L.val rfl (op_field rfl rfl fo28_0 rfl) ?_
  refine L.val rfl (op_load1 rfl rfl one3 (hB2.cells.one (n := 0) rfl)) ?_
  refine L.val rfl (op_eql rfl rfl rfl) ?_
  refine L.val rfl (op_move rfl rfl) ?_
  refine L.guardv (v := (.pointer (some ⟨b1, 6, none⟩))) (wanted_yes rfl rfl rfl) (fun hg => (op_field rfl rfl fo28_6 rfl)) ?_
  refine L.guardv (v := (Enc.val (a.parent : Nm))) (wanted_yes rfl rfl rfl) (fun hg => (op_load (v := (a.parent : Nm)) rfl ((show _ = vif _ (.pointer (some ⟨b1, 6, none⟩)) from rfl).trans (vif_t hg).symm) ty24 (sub_nm 6 hB1.cells rfl))) ?_
  refine L.guardv (v := (.pointer (some ⟨b2, 6, none⟩))) (wanted_yes rfl rfl rfl) (fun hg => (op_field rfl rfl fo28_6 rfl)) ?_
  refine L.guardv (v := (Enc.val (b.parent : Nm))) (wanted_yes rfl rfl rfl) (fun hg => (op_load (v := (b.parent : Nm)) rfl ((show _ = vif _ (.pointer (some ⟨b2, 6, none⟩)) from rfl).trans (vif_t hg).symm) ty24 (sub_nm 6 hB2.cells rfl))) ?_
  refine L.guardv (v := (.bool (decide (a.parent = b.parent)))) (wanted_yes rfl rfl rfl) (fun hg => (op_eqle (a := (a.parent : Nm)) (b := (b.parent : Nm)) rfl ((show _ = vif _ (Enc.val (a.parent : Nm)) from rfl).trans (vif_t hg).symm) ((show _ = vif _ (Enc.val (b.parent : Nm)) from rfl).trans (vif_t hg).symm) eq24 (fun _ => ⟨_, rfl⟩) Try.eqGuardType24)) ?_
  refine L.val rfl (op_and rfl rfl rfl rfl) ?_
  refine L.val rfl (op_move rfl rfl) ?_
  refine L.guardv (v := (.pointer (some ⟨b1, 1, none⟩))) (wanted_yes rfl rfl rfl) (fun hg => (op_field rfl rfl fo28_1 rfl)) ?_
  refine L.guardv (v := (.int .i64 a.slot)) (wanted_yes rfl rfl rfl) (fun hg => (op_load1 rfl ((show _ = vif _ (.pointer (some ⟨b1, 1, none⟩)) from rfl).trans (vif_t hg).symm) one3 (hB1.cells.one (n := 1) rfl))) ?_
  refine L.guardv (v := (.pointer (some ⟨b2, 1, none⟩))) (wanted_yes rfl rfl rfl) (fun hg => (op_field rfl rfl fo28_1 rfl)) ?_
  refine L.guardv (v := (.int .i64 b.slot)) (wanted_yes rfl rfl rfl) (fun hg => (op_load1 rfl ((show _ = vif _ (.pointer (some ⟨b2, 1, none⟩)) from rfl).trans (vif_t hg).symm) one3 (hB2.cells.one (n := 1) rfl))) ?_
  refine L.guardv (v := (.bool (decide (a.slot = b.slot)))) (wanted_yes rfl rfl rfl) (fun hg => (op_eql rfl ((show _ = vif _ (.int .i64 a.slot) from rfl).trans (vif_t hg).symm) ((show _ = vif _ (.int .i64 b.slot) from rfl).trans (vif_t hg).symm))) ?_
  refine L.val rfl (op_and rfl rfl rfl rfl) ?_
  refine L.val rfl (op_move rfl rfl) ?_
  refine L.guardv (v := (.pointer (some ⟨b1, 2, none⟩))) (wanted_yes rfl rfl rfl) (fun hg => (op_field rfl rfl fo28_2 rfl)) ?_
  refine L.guardv (v := (.int .i64 a.round)) (wanted_yes rfl rfl rfl) (fun hg => (op_load1 rfl ((show _ = vif _ (.pointer (some ⟨b1, 2, none⟩)) from rfl).trans (vif_t hg).symm) one3 (hB1.cells.one (n := 2) rfl))) ?_
  refine L.guardv (v := (.pointer (some ⟨b2, 2, none⟩))) (wanted_yes rfl rfl rfl) (fun hg => (op_field rfl rfl fo28_2 rfl)) ?_
  refine L.guardv (v := (.int .i64 b.round)) (wanted_yes rfl rfl rfl) (fun hg => (op_load1 rfl ((show _ = vif _ (.pointer (some ⟨b2, 2, none⟩)) from rfl).trans (vif_t hg).symm) one3 (hB2.cells.one (n := 2) rfl))) ?_
  refine L.guardv (v := (.bool (decide (a.round = b.round)))) (wanted_yes rfl rfl rfl) (fun hg => (op_eql rfl ((show _ = vif _ (.int .i64 a.round) from rfl).trans (vif_t hg).symm) ((show _ = vif _ (.int .i64 b.round) from rfl).trans (vif_t hg).symm))) ?_
  refine L.val rfl (op_and rfl rfl rfl rfl) ?_
  refine L.val rfl (op_move rfl rfl) ?_
  refine L.guardv (v := (.pointer (some ⟨b1, 4, none⟩))) (wanted_yes rfl rfl rfl) (fun hg => (op_field rfl rfl fo28_4 rfl)) ?_
  refine L.guardv (v := (.int .i64 a.signer)) (wanted_yes rfl rfl rfl) (fun hg => (op_load1 rfl ((show _ = vif _ (.pointer (some ⟨b1, 4, none⟩)) from rfl).trans (vif_t hg).symm) one3 (hB1.cells.one (n := 4) rfl))) ?_
  refine L.guardv (v := (.pointer (some ⟨b2, 4, none⟩))) (wanted_yes rfl rfl rfl) (fun hg => (op_field rfl rfl fo28_4 rfl)) ?_
  refine L.guardv (v := (.int .i64 b.signer)) (wanted_yes rfl rfl rfl) (fun hg => (op_load1 rfl ((show _ = vif _ (.pointer (some ⟨b2, 4, none⟩)) from rfl).trans (vif_t hg).symm) one3 (hB2.cells.one (n := 4) rfl))) ?_
  refine L.guardv (v := (.bool (decide (a.signer = b.signer)))) (wanted_yes rfl rfl rfl) (fun hg => (op_eql rfl ((show _ = vif _ (.int .i64 a.signer) from rfl).trans (vif_t hg).symm) ((show _ = vif _ (.int .i64 b.signer) from rfl).trans (vif_t hg).symm))) ?_
  refine L.val rfl (op_and rfl rfl rfl rfl) ?_
  refine L.val rfl (op_assign rfl rfl) ?_
  refine L.nil ?_
  refine thenF_nor ?_
  refine W.ret ?_
  exact end_ret1 (v := (.bool (((((decide (a.kind = b.kind)) && (decide (a.parent = b.parent))) && (decide (a.slot = b.slot))) && (decide (a.round = b.round))) && (decide (a.signer = b.signer))))) rfl rfl ⟨by simp only [sameKey_f], hE⟩

def valid_f (v : Vt) : Bool := bif (!(between_f v.kind 1 7)) || (!(between_f v.signer 0 9)) then false else (bif ((decide (v.choice = 1)) == (decide (v.value = Nm.zero))) || (!decide ((iandn v.support 1023) = 0)) then false else (bif decide (v.kind = 1) then ((between_f v.slot 0 9) && ((decide (v.round = 0)) && (decide (v.support = 0)))) && (decide (v.choice = 1)) else (bif decide (v.kind = 2) then ((between_f v.slot 0 9) && ((decide (v.round = 0)) && (decide (v.support = 0)))) && (decide (v.choice = 1)) else (bif decide (v.kind = 3) then ((between_f v.slot 0 9) && (between_f v.round 1 12)) && ((between_f v.choice 0 1) && (((!decide (v.round = 1)) || (!decide (v.choice = 0))) || (decide (v.support = 0)))) else (bif decide (v.kind = 4) then ((between_f v.slot 0 9) && (between_f v.round 1 12)) && (between_f v.choice 0 2) else ((between_f v.slot 0 0) && ((decide (v.round = 0)) && (decide (v.support = 0)))) && (decide (v.choice = 1)))))))
set_option maxRecDepth 100000 in
theorem Valid_ok {v : Vt}  {w : World}  : Gives Try.prog 53 #[(Enc.val (v : Vt))] w fun u w' => u = (.bool (valid_f v)) ∧ Ext w w' := by
  have hE : Ext w w := Ext.refl w
  refine gives_of_W Try.func53 rfl Try.ntmps53 rfl ?_
  refine W.seq ?_
  refine W.region (by rfl) ?_
  refine L.step rfl (op_box (cs := (Enc.cells (v : Vt))) rfl rfl rfl) ?_
  rintro _ w1 ⟨b1, rfl, hb1, hB1, hx1⟩
  have hE := hE.trans hx1
  refine L.val (v := (.bool false)) rfl (op_assign rfl rfl) ?_
  refine L.nil ?_
  refine thenF_nor ?_
  refine W.seq ?_
  refine W.seq ?_
  refine W.region (by rfl) ?_
  refine L.val rfl (op_field rfl rfl fo28_0 rfl) ?_
  refine L.val rfl (op_load1 rfl rfl one3 (hB1.cells.one (n := 0) rfl)) ?_
  refine L.call (v := (.bool (between_f v.kind 1 7))) rfl (OpS.call (op_call rfl (argsC rfl (argsC rfl (argsC rfl argsN))) Try.func75 rfl rfl) between_ok) ?_
  intro w2 hx2
  have hE := hE.trans hx2
  have hB1 := hB1.ext hx2
  refine L.val rfl (op_not rfl rfl) ?_
  refine L.val rfl (op_move rfl rfl) ?_
  refine L.guardv (v := (.pointer (some ⟨b1, 4, none⟩))) (wanted_no rfl rfl rfl) (fun hg => (op_field rfl rfl fo28_4 rfl)) ?_
  refine L.guardv (v := (.int .i64 v.signer)) (wanted_no rfl rfl rfl) (fun hg => (op_load1 rfl ((show _ = vif _ (.pointer (some ⟨b1, 4, none⟩)) from rfl).trans (vif_t hg).symm) one3 (hB1.cells.one (n := 4) rfl))) ?_
  refine L.guardc (v := (.bool (between_f v.signer 0 9))) (wanted_no rfl rfl rfl) (fun hg => (OpS.call (op_call rfl (argsC ((show _ = vif _ (.int .i64 v.signer) from rfl).trans (vif_t hg).symm) (argsC rfl (argsC rfl argsN))) Try.func75 rfl rfl) between_ok)) ?_
  intro w3 hx3
  have hE := hE.trans hx3
  have hB1 := hB1.ext hx3
  refine L.guardv (v := (.bool (!(between_f v.signer 0 9)))) (wanted_no rfl rfl rfl) (fun hg => (op_not rfl ((show _ = vif _ (.bool (between_f v.signer 0 9)) from rfl).trans (vif_t hg).symm))) ?_
  refine L.val rfl (op_or rfl rfl rfl rfl) ?_
  refine L.nil ?_
  refine thenF_nor ?_
  refine W.cond (t := (!(between_f v.kind 1 7)) || (!(between_f v.signer 0 9))) rfl (fun hc4 => ?_) (fun hc4 => ?_)
  · have hp4 := hc4
    simp only [Bool.and_eq_true, Bool.or_eq_true, Bool.and_eq_false_iff, Bool.or_eq_false_iff, Bool.not_eq_true', Bool.not_eq_false', decide_eq_true_eq, decide_eq_false_iff_not] at hp4
    refine W.seq ?_
    refine W.region (by rfl) ?_
    refine L.val (v := (.bool false)) rfl (op_assign rfl rfl) ?_
    refine L.nil ?_
    refine thenF_nor ?_
    refine W.ret ?_
    refine thenF_ret ?_
    exact end_ret1 (v := (.bool false)) rfl rfl ⟨by simp only [valid_f, hc4, cond_true], hE⟩
  · have hp4 := hc4
    simp only [Bool.and_eq_true, Bool.or_eq_true, Bool.and_eq_false_iff, Bool.or_eq_false_iff, Bool.not_eq_true', Bool.not_eq_false', decide_eq_true_eq, decide_eq_false_iff_not] at hp4
    refine W.skip ?_
    refine thenF_nor ?_
    refine W.seq ?_
    refine W.seq ?_
    refine W.drawS [Sp.eq (.pointer (some ⟨b1, 3, none⟩)), Sp.eq (.int .i64 v.choice), Sp.eq (.bool (decide (v.choice = 1))), Sp.eq (.pointer (some ⟨b1, 14, none⟩)), Sp.eq (Enc.val (v.value : Nm)), Sp.eq (Enc.val (Nm.zero : Nm)), Sp.eq (.bool (decide (v.value = Nm.zero))), Sp.eq (.bool ((decide (v.choice = 1)) == (decide (v.value = Nm.zero)))), Sp.eq (.bool ((decide (v.choice = 1)) == (decide (v.value = Nm.zero)))), Sp.eq (vif (!((decide (v.choice = 1)) == (decide (v.value = Nm.zero)))) (.pointer (some ⟨b1, 5, none⟩))), Sp.eq (vif (!((decide (v.choice = 1)) == (decide (v.value = Nm.zero)))) (.int .i64 v.support)), Sp.eq (vif (!((decide (v.choice = 1)) == (decide (v.value = Nm.zero)))) (.int .i64 (iandn v.support 1023))), Sp.eq (vif (!((decide (v.choice = 1)) == (decide (v.value = Nm.zero)))) (.bool (!decide ((iandn v.support 1023) = 0)))), Sp.eq (.bool (((decide (v.choice = 1)) == (decide (v.value = Nm.zero))) || (!decide ((iandn v.support 1023) = 0))))] mixed (by rfl) (Obls.cons ?_ (Obls.cons ?_ (Obls.cons ?_ (Obls.cons ?_ (Obls.cons ?_ (Obls.cons ?_ (Obls.cons ?_ (Obls.cons ?_ (Obls.cons ?_ (Obls.cons ?_ (Obls.cons ?_ (Obls.cons ?_ (Obls.cons ?_ (Obls.cons ?_ Obls.nil)))))))))))))) ?_
    · intro f6 w6 hx6 ho6 hd6
      have d6_s1 : f6 1 = (.pointer (some ⟨b1, 0, none⟩)) := ho6 1 rfl
      exact D.val rfl (op_field rfl d6_s1 fo28_3 rfl)
    · intro f7 w7 hx7 ho7 hd7
      have d7_0 : f7 16 = (.pointer (some ⟨b1, 3, none⟩)) := hd7 0 rfl
      have hB1 := hB1.ext hx7
      exact D.val rfl (op_load1 rfl d7_0 one3 (hB1.cells.one (n := 3) rfl))
    · intro f8 w8 hx8 ho8 hd8
      have d8_1 : f8 17 = (.int .i64 v.choice) := hd8 1 rfl
      exact D.val rfl (op_eql rfl d8_1 rfl)
    · intro f9 w9 hx9 ho9 hd9
      have d9_s1 : f9 1 = (.pointer (some ⟨b1, 0, none⟩)) := ho9 1 rfl
      exact D.val rfl (op_field rfl d9_s1 fo28_7 rfl)
    · intro f10 w10 hx10 ho10 hd10
      have d10_3 : f10 19 = (.pointer (some ⟨b1, 14, none⟩)) := hd10 3 rfl
      have hB1 := hB1.ext hx10
      exact D.val rfl (op_load (v := (v.value : Nm)) rfl d10_3 ty24 (sub_nm 14 hB1.cells rfl))
    · intro f11 w11 hx11 ho11 hd11
      exact D.val rfl (op_build (v := Enc.val (Nm.zero : Nm)) (cs := Enc.cells (Nm.zero : Nm)) rfl partsN (by kernel_rfl) rfl)
    · intro f12 w12 hx12 ho12 hd12
      have d12_4 : f12 20 = (Enc.val (v.value : Nm)) := hd12 4 rfl
      have d12_5 : f12 21 = (Enc.val (Nm.zero : Nm)) := hd12 5 rfl
      exact D.val rfl (op_eqle (a := (v.value : Nm)) (b := (Nm.zero : Nm)) rfl d12_4 d12_5 eq24 (fun _ => ⟨_, rfl⟩) Try.eqGuardType24)
    · intro f13 w13 hx13 ho13 hd13
      have d13_2 : f13 18 = (.bool (decide (v.choice = 1))) := hd13 2 rfl
      have d13_6 : f13 22 = (.bool (decide (v.value = Nm.zero))) := hd13 6 rfl
      exact D.val rfl (op_eqlb rfl d13_2 d13_6 Try.underlying4)
    · intro f14 w14 hx14 ho14 hd14
      have d14_7 : f14 23 = (.bool ((decide (v.choice = 1)) == (decide (v.value = Nm.zero)))) := hd14 7 rfl
      exact D.val rfl (op_move rfl d14_7)
    · intro f15 w15 hx15 ho15 hd15
      have d15_s1 : f15 1 = (.pointer (some ⟨b1, 0, none⟩)) := ho15 1 rfl
      have d15_8 : f15 24 = (.bool ((decide (v.choice = 1)) == (decide (v.value = Nm.zero)))) := hd15 8 rfl
      exact D.guardv (wanted_no rfl rfl d15_8) (fun hg => (op_field rfl d15_s1 fo28_5 rfl))
    · intro f16 w16 hx16 ho16 hd16
      have d16_8 : f16 24 = (.bool ((decide (v.choice = 1)) == (decide (v.value = Nm.zero)))) := hd16 8 rfl
      have d16_9 : f16 25 = (vif (!((decide (v.choice = 1)) == (decide (v.value = Nm.zero)))) (.pointer (some ⟨b1, 5, none⟩))) := hd16 9 rfl
      have hB1 := hB1.ext hx16
      exact D.guardv (wanted_no rfl rfl d16_8) (fun hg => (op_load1 rfl ((show _ = vif _ (.pointer (some ⟨b1, 5, none⟩)) from d16_9).trans (vif_t hg).symm) one22 (hB1.cells.one (n := 5) rfl)))
    · intro f17 w17 hx17 ho17 hd17
      have d17_8 : f17 24 = (.bool ((decide (v.choice = 1)) == (decide (v.value = Nm.zero)))) := hd17 8 rfl
      have d17_10 : f17 26 = (vif (!((decide (v.choice = 1)) == (decide (v.value = Nm.zero)))) (.int .i64 v.support)) := hd17 10 rfl
      exact D.guardv (wanted_no rfl rfl d17_8) (fun hg => (op_iandn rfl ((show _ = vif _ (.int .i64 v.support) from d17_10).trans (vif_t hg).symm) rfl))
    · intro f18 w18 hx18 ho18 hd18
      have d18_8 : f18 24 = (.bool ((decide (v.choice = 1)) == (decide (v.value = Nm.zero)))) := hd18 8 rfl
      have d18_11 : f18 27 = (vif (!((decide (v.choice = 1)) == (decide (v.value = Nm.zero)))) (.int .i64 (iandn v.support 1023))) := hd18 11 rfl
      exact D.guardv (wanted_no rfl rfl d18_8) (fun hg => (op_neq rfl ((show _ = vif _ (.int .i64 (iandn v.support 1023)) from d18_11).trans (vif_t hg).symm) rfl))
    · intro f19 w19 hx19 ho19 hd19
      have d19_8 : f19 24 = (.bool ((decide (v.choice = 1)) == (decide (v.value = Nm.zero)))) := hd19 8 rfl
      have d19_12 : f19 28 = (vif (!((decide (v.choice = 1)) == (decide (v.value = Nm.zero)))) (.bool (!decide ((iandn v.support 1023) = 0)))) := hd19 12 rfl
      exact D.val rfl (op_or rfl d19_8 rfl d19_12)
    intro f20 w20 hx20 ho20 hr20
    have s0 : f20 0 = (Enc.val (v : Vt)) := ho20 0 rfl
    have s1 : f20 1 = (.pointer (some ⟨b1, 0, none⟩)) := ho20 1 rfl
    have s2 : f20 2 = (.bool false) := ho20 2 rfl
    have s15 : f20 15 = (.bool ((!(between_f v.kind 1 7)) || (!(between_f v.signer 0 9)))) := ho20 15 rfl
    have s29 : f20 29 = (.bool (((decide (v.choice = 1)) == (decide (v.value = Nm.zero))) || (!decide ((iandn v.support 1023) = 0)))) := hr20 13 (by decide)
    have hE := hE.trans hx20
    have hB1 := hB1.ext hx20
    refine thenF_nor ?_
    refine W.cond (t := ((decide (v.choice = 1)) == (decide (v.value = Nm.zero))) || (!decide ((iandn v.support 1023) = 0))) s29 (fun hc21 => ?_) (fun hc21 => ?_)
    · have hp21 := hc21
      simp only [Bool.and_eq_true, Bool.or_eq_true, Bool.and_eq_false_iff, Bool.or_eq_false_iff, Bool.not_eq_true', Bool.not_eq_false', decide_eq_true_eq, decide_eq_false_iff_not] at hp21
      refine W.seq ?_
      refine W.region (by rfl) ?_
      refine L.val (v := (.bool false)) rfl (op_assign rfl rfl) ?_
      refine L.nil ?_
      refine thenF_nor ?_
      refine W.ret ?_
      refine thenF_ret ?_
      exact end_ret1 (v := (.bool false)) rfl rfl ⟨by simp only [valid_f, hc4, hc21, cond_true, cond_false], hE⟩
    · have hp21 := hc21
      simp only [Bool.and_eq_true, Bool.or_eq_true, Bool.and_eq_false_iff, Bool.or_eq_false_iff, Bool.not_eq_true', Bool.not_eq_false', decide_eq_true_eq, decide_eq_false_iff_not] at hp21
      refine W.skip ?_
      refine thenF_nor ?_
      refine W.seq ?_
      refine W.drawS [Sp.eq (.pointer (some ⟨b1, 2, none⟩)), Sp.eq (.int .i64 v.round), Sp.eq (.bool (decide (v.round = 0))), Sp.eq (.bool (decide (v.round = 0))), Sp.eq (vif (decide (v.round = 0)) (.pointer (some ⟨b1, 5, none⟩))), Sp.eq (vif (decide (v.round = 0)) (.int .i64 v.support)), Sp.eq (vif (decide (v.round = 0)) (.bool (decide (v.support = 0)))), Sp.eq (.bool ((decide (v.round = 0)) && (decide (v.support = 0)))), Sp.eq (.pointer (some ⟨b1, 3, none⟩)), Sp.eq (.int .i64 v.choice), Sp.eq (.bool (decide (v.choice = 1))), Sp.eq (.int .i64 0), Sp.eq (.bool ((decide (v.round = 0)) && (decide (v.support = 0)))), Sp.eq (.bool (decide (v.choice = 1)))] mixed (by rfl) (Obls.cons ?_ (Obls.cons ?_ (Obls.cons ?_ (Obls.cons ?_ (Obls.cons ?_ (Obls.cons ?_ (Obls.cons ?_ (Obls.cons ?_ (Obls.cons ?_ (Obls.cons ?_ (Obls.cons ?_ (Obls.cons ?_ (Obls.cons ?_ (Obls.cons ?_ Obls.nil)))))))))))))) ?_
      · intro f23 w23 hx23 ho23 hd23
        have d23_s1 : f23 1 = (.pointer (some ⟨b1, 0, none⟩)) := (ho23 1 rfl).trans s1
        exact D.val rfl (op_field rfl d23_s1 fo28_2 rfl)
      · intro f24 w24 hx24 ho24 hd24
        have d24_0 : f24 30 = (.pointer (some ⟨b1, 2, none⟩)) := hd24 0 rfl
        have hB1 := hB1.ext hx24
        exact D.val rfl (op_load1 rfl d24_0 one3 (hB1.cells.one (n := 2) rfl))
      · intro f25 w25 hx25 ho25 hd25
        have d25_1 : f25 31 = (.int .i64 v.round) := hd25 1 rfl
        exact D.val rfl (op_eql rfl d25_1 rfl)
      · intro f26 w26 hx26 ho26 hd26
        have d26_2 : f26 32 = (.bool (decide (v.round = 0))) := hd26 2 rfl
        exact D.val rfl (op_move rfl d26_2)
      · intro f27 w27 hx27 ho27 hd27
        have d27_s1 : f27 1 = (.pointer (some ⟨b1, 0, none⟩)) := (ho27 1 rfl).trans s1
        have d27_3 : f27 33 = (.bool (decide (v.round = 0))) := hd27 3 rfl
        exact D.guardv (wanted_yes rfl rfl d27_3) (fun hg => (op_field rfl d27_s1 fo28_5 rfl))
      · intro f28 w28 hx28 ho28 hd28
        have d28_3 : f28 33 = (.bool (decide (v.round = 0))) := hd28 3 rfl
        have d28_4 : f28 34 = (vif (decide (v.round = 0)) (.pointer (some ⟨b1, 5, none⟩))) := hd28 4 rfl
        have hB1 := hB1.ext hx28
        exact D.guardv (wanted_yes rfl rfl d28_3) (fun hg => (op_load1 rfl ((show _ = vif _ (.pointer (some ⟨b1, 5, none⟩)) from d28_4).trans (vif_t hg).symm) one22 (hB1.cells.one (n := 5) rfl)))
      · intro f29 w29 hx29 ho29 hd29
        have d29_3 : f29 33 = (.bool (decide (v.round = 0))) := hd29 3 rfl
        have d29_5 : f29 35 = (vif (decide (v.round = 0)) (.int .i64 v.support)) := hd29 5 rfl
        exact D.guardv (wanted_yes rfl rfl d29_3) (fun hg => (op_eql rfl ((show _ = vif _ (.int .i64 v.support) from d29_5).trans (vif_t hg).symm) rfl))
      · intro f30 w30 hx30 ho30 hd30
        have d30_3 : f30 33 = (.bool (decide (v.round = 0))) := hd30 3 rfl
        have d30_6 : f30 36 = (vif (decide (v.round = 0)) (.bool (decide (v.support = 0)))) := hd30 6 rfl
        exact D.val rfl (op_and rfl d30_3 d30_6 rfl)
      · intro f31 w31 hx31 ho31 hd31
        have d31_s1 : f31 1 = (.pointer (some ⟨b1, 0, none⟩)) := (ho31 1 rfl).trans s1
        exact D.val rfl (op_field rfl d31_s1 fo28_3 rfl)
      · intro f32 w32 hx32 ho32 hd32
        have d32_8 : f32 38 = (.pointer (some ⟨b1, 3, none⟩)) := hd32 8 rfl
        have hB1 := hB1.ext hx32
        exact D.val rfl (op_load1 rfl d32_8 one3 (hB1.cells.one (n := 3) rfl))
      · intro f33 w33 hx33 ho33 hd33
        have d33_9 : f33 39 = (.int .i64 v.choice) := hd33 9 rfl
        exact D.val rfl (op_eql rfl d33_9 rfl)
      · intro f34 w34 hx34 ho34 hd34
        exact D.val rfl (op_assign rfl rfl)
      · intro f35 w35 hx35 ho35 hd35
        have d35_7 : f35 37 = (.bool ((decide (v.round = 0)) && (decide (v.support = 0)))) := hd35 7 rfl
        exact D.val rfl (op_assign rfl d35_7)
      · intro f36 w36 hx36 ho36 hd36
        have d36_10 : f36 40 = (.bool (decide (v.choice = 1))) := hd36 10 rfl
        exact D.val rfl (op_assign rfl d36_10)
      intro f37 w37 hx37 ho37 hr37
      have s0 : f37 0 = (Enc.val (v : Vt)) := (ho37 0 rfl).trans s0
      have s1 : f37 1 = (.pointer (some ⟨b1, 0, none⟩)) := (ho37 1 rfl).trans s1
      have s2 : f37 2 = (.bool false) := (ho37 2 rfl).trans s2
      have s15 : f37 15 = (.bool ((!(between_f v.kind 1 7)) || (!(between_f v.signer 0 9)))) := (ho37 15 rfl).trans s15
      have s29 : f37 29 = (.bool (((decide (v.choice = 1)) == (decide (v.value = Nm.zero))) || (!decide ((iandn v.support 1023) = 0)))) := (ho37 29 rfl).trans s29
      have s3 : f37 3 = (.int .i64 0) := hr37 11 (by decide)
      have s4 : f37 4 = (.bool ((decide (v.round = 0)) && (decide (v.support = 0)))) := hr37 12 (by decide)
      have s5 : f37 5 = (.bool (decide (v.choice = 1))) := hr37 13 (by decide)
      have hE := hE.trans hx37
      have hB1 := hB1.ext hx37
      refine thenF_nor ?_
      refine W.seq ?_
      refine W.seq ?_
      refine W.region (by rfl) ?_
      refine L.val rfl (op_field rfl s1 fo28_0 rfl) ?_
      refine L.val rfl (op_load1 rfl rfl one3 (hB1.cells.one (n := 0) rfl)) ?_
      refine L.nil ?_
      refine thenF_nor ?_
      refine W.block ?_
      refine W.seq ?_
      refine W.seq ?_
      refine W.region (by rfl) ?_
      refine L.val rfl (op_eql rfl rfl rfl) ?_
      refine L.val rfl (op_assign rfl rfl) ?_
      refine L.nil ?_
      refine thenF_nor ?_
      refine W.cond (t := decide (v.kind = 1)) rfl (fun hc38 => ?_) (fun hc38 => ?_)
      · have hp38 := hc38
        simp only [Bool.and_eq_true, Bool.or_eq_true, Bool.and_eq_false_iff, Bool.or_eq_false_iff, Bool.not_eq_true', Bool.not_eq_false', decide_eq_true_eq, decide_eq_false_iff_not] at hp38
        refine W.skip ?_
        refine thenF_nor ?_
        refine W.cond (t := decide (v.kind = 1)) rfl (fun _ => ?_) (fun h => by rw [hc38] at h; cases h)
        refine W.region (by rfl) ?_
        refine L.val rfl (op_assign rfl rfl) ?_
        refine L.nil ?_
        refine blockF_nor ?_
        refine thenF_nor ?_
        refine W.seq ?_
        refine W.region (by rfl) ?_
        refine L.val rfl (op_field rfl s1 fo28_1 rfl) ?_
        refine L.val rfl (op_load1 rfl rfl one3 (hB1.cells.one (n := 1) rfl)) ?_
        refine L.val rfl (op_move rfl rfl) ?_
        refine L.call (v := (.bool (between_f v.slot 0 9))) rfl (OpS.call (op_call rfl (argsC rfl (argsC rfl (argsC rfl argsN))) Try.func75 rfl rfl) between_ok) ?_
        intro w39 hx39
        have hE := hE.trans hx39
        have hB1 := hB1.ext hx39
        refine L.val rfl (op_move rfl rfl) ?_
        refine L.guardv (v := (.bool ((decide (v.round = 0)) && (decide (v.support = 0))))) (wanted_yes rfl rfl rfl) (fun hg => (op_move rfl s4)) ?_
        refine L.val rfl (op_and rfl rfl rfl rfl) ?_
        refine L.val rfl (op_move rfl rfl) ?_
        refine L.guardv (v := (.bool (decide (v.choice = 1)))) (wanted_yes rfl rfl rfl) (fun hg => (op_move rfl s5)) ?_
        refine L.val rfl (op_and rfl rfl rfl rfl) ?_
        refine L.val rfl (op_assign rfl rfl) ?_
        refine L.nil ?_
        refine thenF_nor ?_
        refine W.ret ?_
        exact end_ret1 (v := (.bool (((between_f v.slot 0 9) && ((decide (v.round = 0)) && (decide (v.support = 0)))) && (decide (v.choice = 1))))) rfl rfl ⟨by simp only [valid_f, hc4, hc21, hc38, cond_true, cond_false], hE⟩
      · have hp38 := hc38
        simp only [Bool.and_eq_true, Bool.or_eq_true, Bool.and_eq_false_iff, Bool.or_eq_false_iff, Bool.not_eq_true', Bool.not_eq_false', decide_eq_true_eq, decide_eq_false_iff_not] at hp38
        refine W.region (by rfl) ?_
        refine L.val rfl (op_eql rfl rfl rfl) ?_
        refine L.val rfl (op_assign rfl rfl) ?_
        refine L.nil ?_
        refine thenF_nor ?_
        refine W.cond (t := decide (v.kind = 2)) rfl (fun hc40 => ?_) (fun hc40 => ?_)
        · have hp40 := hc40
          simp only [Bool.and_eq_true, Bool.or_eq_true, Bool.and_eq_false_iff, Bool.or_eq_false_iff, Bool.not_eq_true', Bool.not_eq_false', decide_eq_true_eq, decide_eq_false_iff_not] at hp40
          refine W.region (by rfl) ?_
          refine L.val rfl (op_assign rfl rfl) ?_
          refine L.nil ?_
          refine blockF_nor ?_
          refine thenF_nor ?_
          refine W.seq ?_
          refine W.region (by rfl) ?_
          refine L.val rfl (op_field rfl s1 fo28_1 rfl) ?_
          refine L.val rfl (op_load1 rfl rfl one3 (hB1.cells.one (n := 1) rfl)) ?_
          refine L.val rfl (op_move rfl rfl) ?_
          refine L.call (v := (.bool (between_f v.slot 0 9))) rfl (OpS.call (op_call rfl (argsC rfl (argsC rfl (argsC rfl argsN))) Try.func75 rfl rfl) between_ok) ?_
          intro w41 hx41
          have hE := hE.trans hx41
          have hB1 := hB1.ext hx41
          refine L.val rfl (op_move rfl rfl) ?_
          refine L.guardv (v := (.bool ((decide (v.round = 0)) && (decide (v.support = 0))))) (wanted_yes rfl rfl rfl) (fun hg => (op_move rfl s4)) ?_
          refine L.val rfl (op_and rfl rfl rfl rfl) ?_
          refine L.val rfl (op_move rfl rfl) ?_
          refine L.guardv (v := (.bool (decide (v.choice = 1)))) (wanted_yes rfl rfl rfl) (fun hg => (op_move rfl s5)) ?_
          refine L.val rfl (op_and rfl rfl rfl rfl) ?_
          refine L.val rfl (op_assign rfl rfl) ?_
          refine L.nil ?_
          refine thenF_nor ?_
          refine W.ret ?_
          exact end_ret1 (v := (.bool (((between_f v.slot 0 9) && ((decide (v.round = 0)) && (decide (v.support = 0)))) && (decide (v.choice = 1))))) rfl rfl ⟨by simp only [valid_f, hc4, hc21, hc38, hc40, cond_true, cond_false], hE⟩
        · have hp40 := hc40
          simp only [Bool.and_eq_true, Bool.or_eq_true, Bool.and_eq_false_iff, Bool.or_eq_false_iff, Bool.not_eq_true', Bool.not_eq_false', decide_eq_true_eq, decide_eq_false_iff_not] at hp40
          refine W.seq ?_
          refine W.region (by rfl) ?_
          refine L.val rfl (op_eql rfl rfl rfl) ?_
          refine L.val rfl (op_assign rfl rfl) ?_
          refine L.nil ?_
          refine thenF_nor ?_
          refine W.cond (t := decide (v.kind = 3)) rfl (fun hc42 => ?_) (fun hc42 => ?_)
          · have hp42 := hc42
            simp only [Bool.and_eq_true, Bool.or_eq_true, Bool.and_eq_false_iff, Bool.or_eq_false_iff, Bool.not_eq_true', Bool.not_eq_false', decide_eq_true_eq, decide_eq_false_iff_not] at hp42
            refine W.seq ?_
            refine W.drawS [Sp.eq (.pointer (some ⟨b1, 2, none⟩)), Sp.eq (.int .i64 v.round), Sp.eq (.bool (between_f v.round 1 12)), Sp.eq (.pointer (some ⟨b1, 3, none⟩)), Sp.eq (.int .i64 v.choice), Sp.eq (.bool (between_f v.choice 0 1)), Sp.eq (.int .i64 9), Sp.eq (.bool (between_f v.round 1 12)), Sp.eq (.bool (between_f v.choice 0 1))] mixed (by rfl) (Obls.cons ?_ (Obls.cons ?_ (Obls.cons ?_ (Obls.cons ?_ (Obls.cons ?_ (Obls.cons ?_ (Obls.cons ?_ (Obls.cons ?_ (Obls.cons ?_ Obls.nil))))))))) ?_
            · intro f44 w44 hx44 ho44 hd44
              have d44_s1 : f44 1 = (.pointer (some ⟨b1, 0, none⟩)) := (ho44 1 rfl).trans s1
              exact D.val rfl (op_field rfl d44_s1 fo28_2 rfl)
            · intro f45 w45 hx45 ho45 hd45
              have d45_0 : f45 48 = (.pointer (some ⟨b1, 2, none⟩)) := hd45 0 rfl
              have hB1 := hB1.ext hx45
              exact D.val rfl (op_load1 rfl d45_0 one3 (hB1.cells.one (n := 2) rfl))
            · intro f46 w46 hx46 ho46 hd46
              have d46_1 : f46 49 = (.int .i64 v.round) := hd46 1 rfl
              have hB1 := hB1.ext hx46
              exact D.call (R := (Sp.eq (.bool (between_f v.round 1 12))).p) rfl (OpS.call (op_call rfl (argsC d46_1 (argsC rfl (argsC rfl argsN))) Try.func75 rfl rfl) between_ok)
            · intro f47 w47 hx47 ho47 hd47
              have d47_s1 : f47 1 = (.pointer (some ⟨b1, 0, none⟩)) := (ho47 1 rfl).trans s1
              exact D.val rfl (op_field rfl d47_s1 fo28_3 rfl)
            · intro f48 w48 hx48 ho48 hd48
              have d48_3 : f48 51 = (.pointer (some ⟨b1, 3, none⟩)) := hd48 3 rfl
              have hB1 := hB1.ext hx48
              exact D.val rfl (op_load1 rfl d48_3 one3 (hB1.cells.one (n := 3) rfl))
            · intro f49 w49 hx49 ho49 hd49
              have d49_4 : f49 52 = (.int .i64 v.choice) := hd49 4 rfl
              have hB1 := hB1.ext hx49
              exact D.call (R := (Sp.eq (.bool (between_f v.choice 0 1))).p) rfl (OpS.call (op_call rfl (argsC d49_4 (argsC rfl (argsC rfl argsN))) Try.func75 rfl rfl) between_ok)
            · intro f50 w50 hx50 ho50 hd50
              exact D.val rfl (op_assign rfl rfl)
            · intro f51 w51 hx51 ho51 hd51
              have d51_2 : f51 50 = (.bool (between_f v.round 1 12)) := hd51 2 rfl
              exact D.val rfl (op_assign rfl d51_2)
            · intro f52 w52 hx52 ho52 hd52
              have d52_5 : f52 53 = (.bool (between_f v.choice 0 1)) := hd52 5 rfl
              exact D.val rfl (op_assign rfl d52_5)
            intro f53 w53 hx53 ho53 hr53
            have s0 : f53 0 = (Enc.val (v : Vt)) := (ho53 0 rfl).trans s0
            have s1 : f53 1 = (.pointer (some ⟨b1, 0, none⟩)) := (ho53 1 rfl).trans s1
            have s2 : f53 2 = (.bool false) := (ho53 2 rfl).trans s2
            have s15 : f53 15 = (.bool ((!(between_f v.kind 1 7)) || (!(between_f v.signer 0 9)))) := (ho53 15 rfl).trans s15
            have s29 : f53 29 = (.bool (((decide (v.choice = 1)) == (decide (v.value = Nm.zero))) || (!decide ((iandn v.support 1023) = 0)))) := (ho53 29 rfl).trans s29
            have s42 : f53 42 = (.int .i64 v.kind) := ho53 42 rfl
            have s43 : f53 43 = (.bool (decide (v.kind = 2))) := ho53 43 rfl
            have s46 : f53 46 = (.bool (decide (v.kind = 3))) := ho53 46 rfl
            have s3 : f53 3 = (.int .i64 9) := hr53 6 (by decide)
            have s4 : f53 4 = (.bool (between_f v.round 1 12)) := hr53 7 (by decide)
            have s5 : f53 5 = (.bool (between_f v.choice 0 1)) := hr53 8 (by decide)
            have hE := hE.trans hx53
            have hB1 := hB1.ext hx53
            refine thenF_nor ?_
            refine W.region (by rfl) ?_
            refine L.val rfl (op_move rfl s5) ?_
            refine L.val rfl (op_move rfl rfl) ?_
            refine L.guardv (v := (.pointer (some ⟨b1, 2, none⟩))) (wanted_yes rfl rfl rfl) (fun hg => (op_field rfl s1 fo28_2 rfl)) ?_
            refine L.guardv (v := (.int .i64 v.round)) (wanted_yes rfl rfl rfl) (fun hg => (op_load1 rfl ((show _ = vif _ (.pointer (some ⟨b1, 2, none⟩)) from rfl).trans (vif_t hg).symm) one3 (hB1.cells.one (n := 2) rfl))) ?_
            refine L.guardv (v := (.bool (!decide (v.round = 1)))) (wanted_yes rfl rfl rfl) (fun hg => (op_neq rfl ((show _ = vif _ (.int .i64 v.round) from rfl).trans (vif_t hg).symm) rfl)) ?_
            refine L.guardv (v := (.bool (!decide (v.round = 1)))) (wanted_yes rfl rfl rfl) (fun hg => (op_move rfl ((show _ = vif _ (.bool (!decide (v.round = 1))) from rfl).trans (vif_t hg).symm))) ?_
            refine L.guardv (v := (.pointer (some ⟨b1, 3, none⟩))) (wanted_vif rfl rfl rfl) (fun hg => (op_field rfl s1 fo28_3 rfl)) ?_
            refine L.guardv (v := (.int .i64 v.choice)) (wanted_vif rfl rfl rfl) (fun hg => (op_load1 rfl ((show _ = vif _ (.pointer (some ⟨b1, 3, none⟩)) from rfl).trans (vif_t hg).symm) one3 (hB1.cells.one (n := 3) rfl))) ?_
            refine L.guardv (v := (.bool (!decide (v.choice = 0)))) (wanted_vif rfl rfl rfl) (fun hg => (op_neq rfl ((show _ = vif _ (.int .i64 v.choice) from rfl).trans (vif_t hg).symm) rfl)) ?_
            refine L.guardv (v := (.bool ((!decide (v.round = 1)) || (!decide (v.choice = 0))))) (wanted_yes rfl rfl rfl) (fun hg => (op_or rfl ((show _ = vif _ (.bool (!decide (v.round = 1))) from rfl).trans (vif_t hg).symm) rfl ((show _ = vif _ _ from rfl).trans (vif_or hg)))) ?_
            refine L.guardv (v := (.bool ((!decide (v.round = 1)) || (!decide (v.choice = 0))))) (wanted_yes rfl rfl rfl) (fun hg => (op_move rfl ((show _ = vif _ (.bool ((!decide (v.round = 1)) || (!decide (v.choice = 0)))) from rfl).trans (vif_t hg).symm))) ?_
            refine L.guardv (v := (.pointer (some ⟨b1, 5, none⟩))) (wanted_vif rfl rfl rfl) (fun hg => (op_field rfl s1 fo28_5 rfl)) ?_
            refine L.guardv (v := (.int .i64 v.support)) (wanted_vif rfl rfl rfl) (fun hg => (op_load1 rfl ((show _ = vif _ (.pointer (some ⟨b1, 5, none⟩)) from rfl).trans (vif_t hg).symm) one22 (hB1.cells.one (n := 5) rfl))) ?_
            refine L.guardv (v := (.bool (decide (v.support = 0)))) (wanted_vif rfl rfl rfl) (fun hg => (op_eql rfl ((show _ = vif _ (.int .i64 v.support) from rfl).trans (vif_t hg).symm) rfl)) ?_
            refine L.guardv (v := (.bool (((!decide (v.round = 1)) || (!decide (v.choice = 0))) || (decide (v.support = 0))))) (wanted_yes rfl rfl rfl) (fun hg => (op_or rfl ((show _ = vif _ (.bool ((!decide (v.round = 1)) || (!decide (v.choice = 0)))) from rfl).trans (vif_t hg).symm) rfl ((show _ = vif _ _ from rfl).trans (vif_or hg)))) ?_
            refine L.val rfl (op_and rfl rfl rfl rfl) ?_
            refine L.val rfl (op_assign rfl rfl) ?_
            refine L.nil ?_
            refine blockF_nor ?_
            refine thenF_nor ?_
            refine W.seq ?_
            refine W.region (by rfl) ?_
            refine L.val rfl (op_field rfl s1 fo28_1 rfl) ?_
            refine L.val rfl (op_load1 rfl rfl one3 (hB1.cells.one (n := 1) rfl)) ?_
            refine L.val rfl (op_move rfl s3) ?_
            refine L.call (v := (.bool (between_f v.slot 0 9))) rfl (OpS.call (op_call rfl (argsC rfl (argsC rfl (argsC rfl argsN))) Try.func75 rfl rfl) between_ok) ?_
            intro w54 hx54
            have hE := hE.trans hx54
            have hB1 := hB1.ext hx54
            refine L.val rfl (op_move rfl rfl) ?_
            refine L.guardv (v := (.bool (between_f v.round 1 12))) (wanted_yes rfl rfl rfl) (fun hg => (op_move rfl s4)) ?_
            refine L.val rfl (op_and rfl rfl rfl rfl) ?_
            refine L.val rfl (op_move rfl rfl) ?_
            refine L.guardv (v := (.bool ((between_f v.choice 0 1) && (((!decide (v.round = 1)) || (!decide (v.choice = 0))) || (decide (v.support = 0)))))) (wanted_yes rfl rfl rfl) (fun hg => (op_move rfl rfl)) ?_
            refine L.val rfl (op_and rfl rfl rfl rfl) ?_
            refine L.val rfl (op_assign rfl rfl) ?_
            refine L.nil ?_
            refine thenF_nor ?_
            refine W.ret ?_
            exact end_ret1 (v := (.bool (((between_f v.slot 0 9) && (between_f v.round 1 12)) && ((between_f v.choice 0 1) && (((!decide (v.round = 1)) || (!decide (v.choice = 0))) || (decide (v.support = 0))))))) rfl rfl ⟨by simp only [valid_f, hc4, hc21, hc38, hc40, hc42, cond_true, cond_false], hE⟩
          · have hp42 := hc42
            simp only [Bool.and_eq_true, Bool.or_eq_true, Bool.and_eq_false_iff, Bool.or_eq_false_iff, Bool.not_eq_true', Bool.not_eq_false', decide_eq_true_eq, decide_eq_false_iff_not] at hp42
            refine W.seq ?_
            refine W.region (by rfl) ?_
            refine L.val rfl (op_eql rfl rfl rfl) ?_
            refine L.val rfl (op_assign rfl rfl) ?_
            refine L.nil ?_
            refine thenF_nor ?_
            refine W.cond (t := decide (v.kind = 4)) rfl (fun hc55 => ?_) (fun hc55 => ?_)
            · have hp55 := hc55
              simp only [Bool.and_eq_true, Bool.or_eq_true, Bool.and_eq_false_iff, Bool.or_eq_false_iff, Bool.not_eq_true', Bool.not_eq_false', decide_eq_true_eq, decide_eq_false_iff_not] at hp55
              refine W.drawS [Sp.eq (.pointer (some ⟨b1, 2, none⟩)), Sp.eq (.int .i64 v.round), Sp.eq (.bool (between_f v.round 1 12)), Sp.eq (.pointer (some ⟨b1, 3, none⟩)), Sp.eq (.int .i64 v.choice), Sp.eq (.bool (between_f v.choice 0 2)), Sp.eq (.int .i64 9), Sp.eq (.bool (between_f v.round 1 12)), Sp.eq (.bool (between_f v.choice 0 2))] mixed (by rfl) (Obls.cons ?_ (Obls.cons ?_ (Obls.cons ?_ (Obls.cons ?_ (Obls.cons ?_ (Obls.cons ?_ (Obls.cons ?_ (Obls.cons ?_ (Obls.cons ?_ Obls.nil))))))))) ?_
              · intro f57 w57 hx57 ho57 hd57
                have d57_s1 : f57 1 = (.pointer (some ⟨b1, 0, none⟩)) := (ho57 1 rfl).trans s1
                exact D.val rfl (op_field rfl d57_s1 fo28_2 rfl)
              · intro f58 w58 hx58 ho58 hd58
                have d58_0 : f58 72 = (.pointer (some ⟨b1, 2, none⟩)) := hd58 0 rfl
                have hB1 := hB1.ext hx58
                exact D.val rfl (op_load1 rfl d58_0 one3 (hB1.cells.one (n := 2) rfl))
              · intro f59 w59 hx59 ho59 hd59
                have d59_1 : f59 73 = (.int .i64 v.round) := hd59 1 rfl
                have hB1 := hB1.ext hx59
                exact D.call (R := (Sp.eq (.bool (between_f v.round 1 12))).p) rfl (OpS.call (op_call rfl (argsC d59_1 (argsC rfl (argsC rfl argsN))) Try.func75 rfl rfl) between_ok)
              · intro f60 w60 hx60 ho60 hd60
                have d60_s1 : f60 1 = (.pointer (some ⟨b1, 0, none⟩)) := (ho60 1 rfl).trans s1
                exact D.val rfl (op_field rfl d60_s1 fo28_3 rfl)
              · intro f61 w61 hx61 ho61 hd61
                have d61_3 : f61 75 = (.pointer (some ⟨b1, 3, none⟩)) := hd61 3 rfl
                have hB1 := hB1.ext hx61
                exact D.val rfl (op_load1 rfl d61_3 one3 (hB1.cells.one (n := 3) rfl))
              · intro f62 w62 hx62 ho62 hd62
                have d62_4 : f62 76 = (.int .i64 v.choice) := hd62 4 rfl
                have hB1 := hB1.ext hx62
                exact D.call (R := (Sp.eq (.bool (between_f v.choice 0 2))).p) rfl (OpS.call (op_call rfl (argsC d62_4 (argsC rfl (argsC rfl argsN))) Try.func75 rfl rfl) between_ok)
              · intro f63 w63 hx63 ho63 hd63
                exact D.val rfl (op_assign rfl rfl)
              · intro f64 w64 hx64 ho64 hd64
                have d64_2 : f64 74 = (.bool (between_f v.round 1 12)) := hd64 2 rfl
                exact D.val rfl (op_assign rfl d64_2)
              · intro f65 w65 hx65 ho65 hd65
                have d65_5 : f65 77 = (.bool (between_f v.choice 0 2)) := hd65 5 rfl
                exact D.val rfl (op_assign rfl d65_5)
              intro f66 w66 hx66 ho66 hr66
              have s0 : f66 0 = (Enc.val (v : Vt)) := (ho66 0 rfl).trans s0
              have s1 : f66 1 = (.pointer (some ⟨b1, 0, none⟩)) := (ho66 1 rfl).trans s1
              have s2 : f66 2 = (.bool false) := (ho66 2 rfl).trans s2
              have s15 : f66 15 = (.bool ((!(between_f v.kind 1 7)) || (!(between_f v.signer 0 9)))) := (ho66 15 rfl).trans s15
              have s29 : f66 29 = (.bool (((decide (v.choice = 1)) == (decide (v.value = Nm.zero))) || (!decide ((iandn v.support 1023) = 0)))) := (ho66 29 rfl).trans s29
              have s42 : f66 42 = (.int .i64 v.kind) := ho66 42 rfl
              have s43 : f66 43 = (.bool (decide (v.kind = 2))) := ho66 43 rfl
              have s46 : f66 46 = (.bool (decide (v.kind = 3))) := ho66 46 rfl
              have s70 : f66 70 = (.bool (decide (v.kind = 4))) := ho66 70 rfl
              have s3 : f66 3 = (.int .i64 9) := hr66 6 (by decide)
              have s4 : f66 4 = (.bool (between_f v.round 1 12)) := hr66 7 (by decide)
              have s5 : f66 5 = (.bool (between_f v.choice 0 2)) := hr66 8 (by decide)
              have hE := hE.trans hx66
              have hB1 := hB1.ext hx66
              refine blockF_nor ?_
              refine thenF_nor ?_
              refine W.seq ?_
              refine W.region (by rfl) ?_
              refine L.val rfl (op_field rfl s1 fo28_1 rfl) ?_
              refine L.val rfl (op_load1 rfl rfl one3 (hB1.cells.one (n := 1) rfl)) ?_
              refine L.val rfl (op_move rfl s3) ?_
              refine L.call (v := (.bool (between_f v.slot 0 9))) rfl (OpS.call (op_call rfl (argsC rfl (argsC rfl (argsC rfl argsN))) Try.func75 rfl rfl) between_ok) ?_
              intro w67 hx67
              have hE := hE.trans hx67
              have hB1 := hB1.ext hx67
              refine L.val rfl (op_move rfl rfl) ?_
              refine L.guardv (v := (.bool (between_f v.round 1 12))) (wanted_yes rfl rfl rfl) (fun hg => (op_move rfl s4)) ?_
              refine L.val rfl (op_and rfl rfl rfl rfl) ?_
              refine L.val rfl (op_move rfl rfl) ?_
              refine L.guardv (v := (.bool (between_f v.choice 0 2))) (wanted_yes rfl rfl rfl) (fun hg => (op_move rfl s5)) ?_
              refine L.val rfl (op_and rfl rfl rfl rfl) ?_
              refine L.val rfl (op_assign rfl rfl) ?_
              refine L.nil ?_
              refine thenF_nor ?_
              refine W.ret ?_
              exact end_ret1 (v := (.bool (((between_f v.slot 0 9) && (between_f v.round 1 12)) && (between_f v.choice 0 2)))) rfl rfl ⟨by simp only [valid_f, hc4, hc21, hc38, hc40, hc42, hc55, cond_true, cond_false], hE⟩
            · have hp55 := hc55
              simp only [Bool.and_eq_true, Bool.or_eq_true, Bool.and_eq_false_iff, Bool.or_eq_false_iff, Bool.not_eq_true', Bool.not_eq_false', decide_eq_true_eq, decide_eq_false_iff_not] at hp55
              refine W.skip ?_
              refine blockF_nor ?_
              refine thenF_nor ?_
              refine W.seq ?_
              refine W.region (by rfl) ?_
              refine L.val rfl (op_field rfl s1 fo28_1 rfl) ?_
              refine L.val rfl (op_load1 rfl rfl one3 (hB1.cells.one (n := 1) rfl)) ?_
              refine L.val rfl (op_move rfl s3) ?_
              refine L.call (v := (.bool (between_f v.slot 0 0))) rfl (OpS.call (op_call rfl (argsC rfl (argsC rfl (argsC rfl argsN))) Try.func75 rfl rfl) between_ok) ?_
              intro w68 hx68
              have hE := hE.trans hx68
              have hB1 := hB1.ext hx68
              refine L.val rfl (op_move rfl rfl) ?_
              refine L.guardv (v := (.bool ((decide (v.round = 0)) && (decide (v.support = 0))))) (wanted_yes rfl rfl rfl) (fun hg => (op_move rfl s4)) ?_
              refine L.val rfl (op_and rfl rfl rfl rfl) ?_
              refine L.val rfl (op_move rfl rfl) ?_
              refine L.guardv (v := (.bool (decide (v.choice = 1)))) (wanted_yes rfl rfl rfl) (fun hg => (op_move rfl s5)) ?_
              refine L.val rfl (op_and rfl rfl rfl rfl) ?_
              refine L.val rfl (op_assign rfl rfl) ?_
              refine L.nil ?_
              refine thenF_nor ?_
              refine W.ret ?_
              exact end_ret1 (v := (.bool (((between_f v.slot 0 0) && ((decide (v.round = 0)) && (decide (v.support = 0)))) && (decide (v.choice = 1))))) rfl rfl ⟨by simp only [valid_f, hc4, hc21, hc38, hc40, hc42, hc55, cond_false], hE⟩

def conflict_f (a : Vt) (b : Vt) : Bool := (((!decide (a = b)) && (sameKey_f a b)) && (valid_f a)) && (valid_f b)
set_option maxRecDepth 100000 in
theorem Conflict_ok {a : Vt} {b : Vt}  {w : World}  : Gives Try.prog 38 #[(Enc.val (a : Vt)), (Enc.val (b : Vt))] w fun u w' => u = (.bool (conflict_f a b)) ∧ Ext w w' := by
  have hE : Ext w w := Ext.refl w
  refine gives_of_W Try.func38 rfl Try.ntmps38 rfl ?_
  refine W.seq ?_
  refine W.region (by rfl) ?_
  refine L.step rfl (op_box (cs := (Enc.cells (a : Vt))) rfl rfl rfl) ?_
  rintro _ w1 ⟨b1, rfl, hb1, hB1, hx1⟩
  have hE := hE.trans hx1
  refine L.step rfl (op_box (cs := (Enc.cells (b : Vt))) rfl rfl rfl) ?_
  rintro _ w2 ⟨b2, rfl, hb2, hB2, hx2⟩
  have hE := hE.trans hx2
  have hB1 := hB1.ext hx2
  refine L.val (v := (.bool false)) rfl (op_assign rfl rfl) ?_
  refine L.nil ?_
  refine thenF_nor ?_
  refine W.seq ?_
  refine W.region (by rfl) ?_
  refine L.val rfl (op_load (v := (a : Vt)) rfl rfl ty28 hB1.cells) ?_
  refine L.val rfl (op_load (v := (b : Vt)) rfl rfl ty28 hB2.cells) ?_
  refine L.val rfl (op_neqe (a := (a : Vt)) (b := (b : Vt)) rfl rfl rfl eq28 (fun _ => ⟨_, rfl⟩) Try.eqGuardType28) ?_
  refine L.val rfl (op_move rfl rfl) ?_
  refine L.guardv (v := (Enc.val (a : Vt))) (wanted_yes rfl rfl rfl) (fun hg => (op_load (v := (a : Vt)) rfl rfl ty28 hB1.cells)) ?_
  refine L.guardv (v := (Enc.val (b : Vt))) (wanted_yes rfl rfl rfl) (fun hg => (op_load (v := (b : Vt)) rfl rfl ty28 hB2.cells)) ?_
  refine L.guardc (v := (.bool (sameKey_f a b))) (wanted_yes rfl rfl rfl) (fun hg => (OpS.call (op_call rfl (argsC ((show _ = vif _ (Enc.val (a : Vt)) from rfl).trans (vif_t hg).symm) (argsC ((show _ = vif _ (Enc.val (b : Vt)) from rfl).trans (vif_t hg).symm) argsN)) Try.func67 rfl rfl) SameKey_ok)) ?_
  intro w3 hx3
  have hE := hE.trans hx3
  have hB1 := hB1.ext hx3
  have hB2 := hB2.ext hx3
  refine L.val rfl (op_and rfl rfl rfl rfl) ?_
  refine L.val rfl (op_move rfl rfl) ?_
  refine L.guardv (v := (Enc.val (a : Vt))) (wanted_yes rfl rfl rfl) (fun hg => (op_load (v := (a : Vt)) rfl rfl ty28 hB1.cells)) ?_
  refine L.guardc (v := (.bool (valid_f a))) (wanted_yes rfl rfl rfl) (fun hg => (OpS.call (op_call rfl (argsC ((show _ = vif _ (Enc.val (a : Vt)) from rfl).trans (vif_t hg).symm) argsN) Try.func53 rfl rfl) Valid_ok)) ?_
  intro w4 hx4
  have hE := hE.trans hx4
  have hB1 := hB1.ext hx4
  have hB2 := hB2.ext hx4
  refine L.val rfl (op_and rfl rfl rfl rfl) ?_
  refine L.val rfl (op_move rfl rfl) ?_
  refine L.guardv (v := (Enc.val (b : Vt))) (wanted_yes rfl rfl rfl) (fun hg => (op_load (v := (b : Vt)) rfl rfl ty28 hB2.cells)) ?_
  refine L.guardc (v := (.bool (valid_f b))) (wanted_yes rfl rfl rfl) (fun hg => (OpS.call (op_call rfl (argsC ((show _ = vif _ (Enc.val (b : Vt)) from rfl).trans (vif_t hg).symm) argsN) Try.func53 rfl rfl) Valid_ok)) ?_
  intro w5 hx5
  have hE := hE.trans hx5
  have hB1 := hB1.ext hx5
  have hB2 := hB2.ext hx5
  refine L.val rfl (op_and rfl rfl rfl rfl) ?_
  refine L.val rfl (op_assign rfl rfl) ?_
  refine L.nil ?_
  refine thenF_nor ?_
  refine W.ret ?_
  exact end_ret1 (v := (.bool ((((!decide (a = b)) && (sameKey_f a b)) && (valid_f a)) && (valid_f b)))) rfl rfl ⟨by simp only [conflict_f], hE⟩

def same_f (a : Vt) (b : Vt) : Bool := (decide (a.choice = b.choice)) && (decide (a.value = b.value))
set_option maxRecDepth 100000 in
theorem same_ok {a : Vt} {b : Vt}  {w : World}  : Gives Try.prog 57 #[(Enc.val (a : Vt)), (Enc.val (b : Vt))] w fun u w' => u = (.bool (same_f a b)) ∧ Ext w w' := by
  have hE : Ext w w := Ext.refl w
  refine gives_of_W Try.func57 rfl Try.ntmps57 rfl ?_
  refine W.seq ?_
  refine W.region (by rfl) ?_
  refine L.step rfl (op_box (cs := (Enc.cells (a : Vt))) rfl rfl rfl) ?_
  rintro _ w1 ⟨b1, rfl, hb1, hB1, hx1⟩
  have hE := hE.trans hx1
  refine L.step rfl (op_box (cs := (Enc.cells (b : Vt))) rfl rfl rfl) ?_
  rintro _ w2 ⟨b2, rfl, hb2, hB2, hx2⟩
  have hE := hE.trans hx2
  have hB1 := hB1.ext hx2
  refine L.val (v := (.bool false)) rfl (op_assign rfl rfl) ?_
  refine L.nil ?_
  refine thenF_nor ?_
  refine W.seq ?_
  refine W.region (by rfl) ?_
  refine L.val rfl (op_field rfl rfl fo28_3 rfl) ?_
  refine L.val rfl (op_load1 rfl rfl one3 (hB1.cells.one (n := 3) rfl)) ?_
  refine L.val rfl (op_field rfl rfl fo28_3 rfl) ?_
  refine L.val rfl (op_load1 rfl rfl one3 (hB2.cells.one (n := 3) rfl)) ?_
  refine L.val rfl (op_eql rfl rfl rfl) ?_
  refine L.val rfl (op_move rfl rfl) ?_
  refine L.guardv (v := (.pointer (some ⟨b1, 14, none⟩))) (wanted_yes rfl rfl rfl) (fun hg => (op_field rfl rfl fo28_7 rfl)) ?_
  refine L.guardv (v := (Enc.val (a.value : Nm))) (wanted_yes rfl rfl rfl) (fun hg => (op_load (v := (a.value : Nm)) rfl ((show _ = vif _ (.pointer (some ⟨b1, 14, none⟩)) from rfl).trans (vif_t hg).symm) ty24 (sub_nm 14 hB1.cells rfl))) ?_
  refine L.guardv (v := (.pointer (some ⟨b2, 14, none⟩))) (wanted_yes rfl rfl rfl) (fun hg => (op_field rfl rfl fo28_7 rfl)) ?_
  refine L.guardv (v := (Enc.val (b.value : Nm))) (wanted_yes rfl rfl rfl) (fun hg => (op_load (v := (b.value : Nm)) rfl ((show _ = vif _ (.pointer (some ⟨b2, 14, none⟩)) from rfl).trans (vif_t hg).symm) ty24 (sub_nm 14 hB2.cells rfl))) ?_
  refine L.guardv (v := (.bool (decide (a.value = b.value)))) (wanted_yes rfl rfl rfl) (fun hg => (op_eqle (a := (a.value : Nm)) (b := (b.value : Nm)) rfl ((show _ = vif _ (Enc.val (a.value : Nm)) from rfl).trans (vif_t hg).symm) ((show _ = vif _ (Enc.val (b.value : Nm)) from rfl).trans (vif_t hg).symm) eq24 (fun _ => ⟨_, rfl⟩) Try.eqGuardType24)) ?_
  refine L.val rfl (op_and rfl rfl rfl rfl) ?_
  refine L.val rfl (op_assign rfl rfl) ?_
  refine L.nil ?_
  refine thenF_nor ?_
  refine W.ret ?_
  exact end_ret1 (v := (.bool ((decide (a.choice = b.choice)) && (decide (a.value = b.value))))) rfl rfl ⟨by simp only [same_f], hE⟩

def onesCount64_f (x : Int) : Int := iand (IntKind.i64.wrap (IntKind.u64.wrap ((IntKind.u64.wrap ((IntKind.u64.wrap ((bits .and .u64 (IntKind.u64.wrap (((IntKind.u64.wrap ((bits .and .u64 ((IntKind.u64.wrap ((bits .and .u64 (x / 2 ^ (1 : Int).toNat) 6148914691236517205) + (bits .and .u64 x 6148914691236517205))) / 2 ^ (2 : Int).toNat) 3689348814741910323) + (bits .and .u64 (IntKind.u64.wrap ((bits .and .u64 (x / 2 ^ (1 : Int).toNat) 6148914691236517205) + (bits .and .u64 x 6148914691236517205))) 3689348814741910323))) / 2 ^ (4 : Int).toNat) + (IntKind.u64.wrap ((bits .and .u64 ((IntKind.u64.wrap ((bits .and .u64 (x / 2 ^ (1 : Int).toNat) 6148914691236517205) + (bits .and .u64 x 6148914691236517205))) / 2 ^ (2 : Int).toNat) 3689348814741910323) + (bits .and .u64 (IntKind.u64.wrap ((bits .and .u64 (x / 2 ^ (1 : Int).toNat) 6148914691236517205) + (bits .and .u64 x 6148914691236517205))) 3689348814741910323))))) 1085102592571150095) + ((bits .and .u64 (IntKind.u64.wrap (((IntKind.u64.wrap ((bits .and .u64 ((IntKind.u64.wrap ((bits .and .u64 (x / 2 ^ (1 : Int).toNat) 6148914691236517205) + (bits .and .u64 x 6148914691236517205))) / 2 ^ (2 : Int).toNat) 3689348814741910323) + (bits .and .u64 (IntKind.u64.wrap ((bits .and .u64 (x / 2 ^ (1 : Int).toNat) 6148914691236517205) + (bits .and .u64 x 6148914691236517205))) 3689348814741910323))) / 2 ^ (4 : Int).toNat) + (IntKind.u64.wrap ((bits .and .u64 ((IntKind.u64.wrap ((bits .and .u64 (x / 2 ^ (1 : Int).toNat) 6148914691236517205) + (bits .and .u64 x 6148914691236517205))) / 2 ^ (2 : Int).toNat) 3689348814741910323) + (bits .and .u64 (IntKind.u64.wrap ((bits .and .u64 (x / 2 ^ (1 : Int).toNat) 6148914691236517205) + (bits .and .u64 x 6148914691236517205))) 3689348814741910323))))) 1085102592571150095) / 2 ^ (8 : Int).toNat))) + ((IntKind.u64.wrap ((bits .and .u64 (IntKind.u64.wrap (((IntKind.u64.wrap ((bits .and .u64 ((IntKind.u64.wrap ((bits .and .u64 (x / 2 ^ (1 : Int).toNat) 6148914691236517205) + (bits .and .u64 x 6148914691236517205))) / 2 ^ (2 : Int).toNat) 3689348814741910323) + (bits .and .u64 (IntKind.u64.wrap ((bits .and .u64 (x / 2 ^ (1 : Int).toNat) 6148914691236517205) + (bits .and .u64 x 6148914691236517205))) 3689348814741910323))) / 2 ^ (4 : Int).toNat) + (IntKind.u64.wrap ((bits .and .u64 ((IntKind.u64.wrap ((bits .and .u64 (x / 2 ^ (1 : Int).toNat) 6148914691236517205) + (bits .and .u64 x 6148914691236517205))) / 2 ^ (2 : Int).toNat) 3689348814741910323) + (bits .and .u64 (IntKind.u64.wrap ((bits .and .u64 (x / 2 ^ (1 : Int).toNat) 6148914691236517205) + (bits .and .u64 x 6148914691236517205))) 3689348814741910323))))) 1085102592571150095) + ((bits .and .u64 (IntKind.u64.wrap (((IntKind.u64.wrap ((bits .and .u64 ((IntKind.u64.wrap ((bits .and .u64 (x / 2 ^ (1 : Int).toNat) 6148914691236517205) + (bits .and .u64 x 6148914691236517205))) / 2 ^ (2 : Int).toNat) 3689348814741910323) + (bits .and .u64 (IntKind.u64.wrap ((bits .and .u64 (x / 2 ^ (1 : Int).toNat) 6148914691236517205) + (bits .and .u64 x 6148914691236517205))) 3689348814741910323))) / 2 ^ (4 : Int).toNat) + (IntKind.u64.wrap ((bits .and .u64 ((IntKind.u64.wrap ((bits .and .u64 (x / 2 ^ (1 : Int).toNat) 6148914691236517205) + (bits .and .u64 x 6148914691236517205))) / 2 ^ (2 : Int).toNat) 3689348814741910323) + (bits .and .u64 (IntKind.u64.wrap ((bits .and .u64 (x / 2 ^ (1 : Int).toNat) 6148914691236517205) + (bits .and .u64 x 6148914691236517205))) 3689348814741910323))))) 1085102592571150095) / 2 ^ (8 : Int).toNat))) / 2 ^ (16 : Int).toNat))) + ((IntKind.u64.wrap ((IntKind.u64.wrap ((bits .and .u64 (IntKind.u64.wrap (((IntKind.u64.wrap ((bits .and .u64 ((IntKind.u64.wrap ((bits .and .u64 (x / 2 ^ (1 : Int).toNat) 6148914691236517205) + (bits .and .u64 x 6148914691236517205))) / 2 ^ (2 : Int).toNat) 3689348814741910323) + (bits .and .u64 (IntKind.u64.wrap ((bits .and .u64 (x / 2 ^ (1 : Int).toNat) 6148914691236517205) + (bits .and .u64 x 6148914691236517205))) 3689348814741910323))) / 2 ^ (4 : Int).toNat) + (IntKind.u64.wrap ((bits .and .u64 ((IntKind.u64.wrap ((bits .and .u64 (x / 2 ^ (1 : Int).toNat) 6148914691236517205) + (bits .and .u64 x 6148914691236517205))) / 2 ^ (2 : Int).toNat) 3689348814741910323) + (bits .and .u64 (IntKind.u64.wrap ((bits .and .u64 (x / 2 ^ (1 : Int).toNat) 6148914691236517205) + (bits .and .u64 x 6148914691236517205))) 3689348814741910323))))) 1085102592571150095) + ((bits .and .u64 (IntKind.u64.wrap (((IntKind.u64.wrap ((bits .and .u64 ((IntKind.u64.wrap ((bits .and .u64 (x / 2 ^ (1 : Int).toNat) 6148914691236517205) + (bits .and .u64 x 6148914691236517205))) / 2 ^ (2 : Int).toNat) 3689348814741910323) + (bits .and .u64 (IntKind.u64.wrap ((bits .and .u64 (x / 2 ^ (1 : Int).toNat) 6148914691236517205) + (bits .and .u64 x 6148914691236517205))) 3689348814741910323))) / 2 ^ (4 : Int).toNat) + (IntKind.u64.wrap ((bits .and .u64 ((IntKind.u64.wrap ((bits .and .u64 (x / 2 ^ (1 : Int).toNat) 6148914691236517205) + (bits .and .u64 x 6148914691236517205))) / 2 ^ (2 : Int).toNat) 3689348814741910323) + (bits .and .u64 (IntKind.u64.wrap ((bits .and .u64 (x / 2 ^ (1 : Int).toNat) 6148914691236517205) + (bits .and .u64 x 6148914691236517205))) 3689348814741910323))))) 1085102592571150095) / 2 ^ (8 : Int).toNat))) + ((IntKind.u64.wrap ((bits .and .u64 (IntKind.u64.wrap (((IntKind.u64.wrap ((bits .and .u64 ((IntKind.u64.wrap ((bits .and .u64 (x / 2 ^ (1 : Int).toNat) 6148914691236517205) + (bits .and .u64 x 6148914691236517205))) / 2 ^ (2 : Int).toNat) 3689348814741910323) + (bits .and .u64 (IntKind.u64.wrap ((bits .and .u64 (x / 2 ^ (1 : Int).toNat) 6148914691236517205) + (bits .and .u64 x 6148914691236517205))) 3689348814741910323))) / 2 ^ (4 : Int).toNat) + (IntKind.u64.wrap ((bits .and .u64 ((IntKind.u64.wrap ((bits .and .u64 (x / 2 ^ (1 : Int).toNat) 6148914691236517205) + (bits .and .u64 x 6148914691236517205))) / 2 ^ (2 : Int).toNat) 3689348814741910323) + (bits .and .u64 (IntKind.u64.wrap ((bits .and .u64 (x / 2 ^ (1 : Int).toNat) 6148914691236517205) + (bits .and .u64 x 6148914691236517205))) 3689348814741910323))))) 1085102592571150095) + ((bits .and .u64 (IntKind.u64.wrap (((IntKind.u64.wrap ((bits .and .u64 ((IntKind.u64.wrap ((bits .and .u64 (x / 2 ^ (1 : Int).toNat) 6148914691236517205) + (bits .and .u64 x 6148914691236517205))) / 2 ^ (2 : Int).toNat) 3689348814741910323) + (bits .and .u64 (IntKind.u64.wrap ((bits .and .u64 (x / 2 ^ (1 : Int).toNat) 6148914691236517205) + (bits .and .u64 x 6148914691236517205))) 3689348814741910323))) / 2 ^ (4 : Int).toNat) + (IntKind.u64.wrap ((bits .and .u64 ((IntKind.u64.wrap ((bits .and .u64 (x / 2 ^ (1 : Int).toNat) 6148914691236517205) + (bits .and .u64 x 6148914691236517205))) / 2 ^ (2 : Int).toNat) 3689348814741910323) + (bits .and .u64 (IntKind.u64.wrap ((bits .and .u64 (x / 2 ^ (1 : Int).toNat) 6148914691236517205) + (bits .and .u64 x 6148914691236517205))) 3689348814741910323))))) 1085102592571150095) / 2 ^ (8 : Int).toNat))) / 2 ^ (16 : Int).toNat))) / 2 ^ (32 : Int).toNat)))) 127
set_option maxRecDepth 100000 in
theorem OnesCount64_ok {x : Int}  {w : World}  : Gives Try.prog 94 #[(.int .u64 x)] w fun u w' => u = (.int .i64 (onesCount64_f x)) ∧ Ext w w' := by
  have hE : Ext w w := Ext.refl w
  refine gives_of_W Try.func94 rfl Try.ntmps94 rfl ?_
  refine W.seq ?_
  refine W.region (by rfl) ?_
  refine L.val rfl (op_assign rfl rfl) ?_
  refine L.nil ?_
  refine thenF_nor ?_
  refine W.seq ?_
  refine W.region (by rfl) ?_
  refine L.val rfl (op_move rfl rfl) ?_
  refine L.val rfl (op_ushr rfl rfl rfl (by decide) (by decide)) ?_
  refine L.val rfl (op_uand rfl rfl rfl) ?_
  refine L.val rfl (op_move rfl rfl) ?_
  refine L.val rfl (op_uand rfl rfl rfl) ?_
  refine L.val rfl (op_uadd rfl rfl rfl) ?_
  refine L.val rfl (op_assign rfl rfl) ?_
  refine L.nil ?_
  refine thenF_nor ?_
  refine W.seq ?_
  refine W.region (by rfl) ?_
  refine L.val rfl (op_move rfl rfl) ?_
  refine L.val rfl (op_ushr rfl rfl rfl (by decide) (by decide)) ?_
  refine L.val rfl (op_uand rfl rfl rfl) ?_
  refine L.val rfl (op_move rfl rfl) ?_
  refine L.val rfl (op_uand rfl rfl rfl) ?_
  refine L.val rfl (op_uadd rfl rfl rfl) ?_
  refine L.val rfl (op_assign rfl rfl) ?_
  refine L.nil ?_
  refine thenF_nor ?_
  refine W.seq ?_
  refine W.region (by rfl) ?_
  refine L.val rfl (op_move rfl rfl) ?_
  refine L.val rfl (op_ushr rfl rfl rfl (by decide) (by decide)) ?_
  refine L.val rfl (op_move rfl rfl) ?_
  refine L.val rfl (op_uadd rfl rfl rfl) ?_
  refine L.val rfl (op_uand rfl rfl rfl) ?_
  refine L.val rfl (op_assign rfl rfl) ?_
  refine L.nil ?_
  refine thenF_nor ?_
  refine W.seq ?_
  refine W.region (by rfl) ?_
  refine L.val rfl (op_move rfl rfl) ?_
  refine L.val rfl (op_move rfl rfl) ?_
  refine L.val rfl (op_ushr rfl rfl rfl (by decide) (by decide)) ?_
  refine L.val rfl (op_uadd rfl rfl rfl) ?_
  refine L.val rfl (op_assign rfl rfl) ?_
  refine L.nil ?_
  refine thenF_nor ?_
  refine W.seq ?_
  refine W.region (by rfl) ?_
  refine L.val rfl (op_move rfl rfl) ?_
  refine L.val rfl (op_move rfl rfl) ?_
  refine L.val rfl (op_ushr rfl rfl rfl (by decide) (by decide)) ?_
  refine L.val rfl (op_uadd rfl rfl rfl) ?_
  refine L.val rfl (op_assign rfl rfl) ?_
  refine L.nil ?_
  refine thenF_nor ?_
  refine W.seq ?_
  refine W.region (by rfl) ?_
  refine L.val rfl (op_move rfl rfl) ?_
  refine L.val rfl (op_move rfl rfl) ?_
  refine L.val rfl (op_ushr rfl rfl rfl (by decide) (by decide)) ?_
  refine L.val rfl (op_uadd rfl rfl rfl) ?_
  refine L.val rfl (op_assign rfl rfl) ?_
  refine L.nil ?_
  refine thenF_nor ?_
  refine W.seq ?_
  refine W.region (by rfl) ?_
  refine L.val rfl (op_move rfl rfl) ?_
  refine L.val rfl (op_conv rfl rfl (by kernel_rfl) Try.underlying3) ?_
  refine L.val rfl (op_iand rfl rfl rfl) ?_
  refine L.val rfl (op_assign rfl rfl) ?_
  refine L.nil ?_
  refine thenF_nor ?_
  refine W.ret ?_
  exact end_ret1 (v := (.int .i64 (iand (IntKind.i64.wrap (IntKind.u64.wrap ((IntKind.u64.wrap ((IntKind.u64.wrap ((bits .and .u64 (IntKind.u64.wrap (((IntKind.u64.wrap ((bits .and .u64 ((IntKind.u64.wrap ((bits .and .u64 (x / 2 ^ (1 : Int).toNat) 6148914691236517205) + (bits .and .u64 x 6148914691236517205))) / 2 ^ (2 : Int).toNat) 3689348814741910323) + (bits .and .u64 (IntKind.u64.wrap ((bits .and .u64 (x / 2 ^ (1 : Int).toNat) 6148914691236517205) + (bits .and .u64 x 6148914691236517205))) 3689348814741910323))) / 2 ^ (4 : Int).toNat) + (IntKind.u64.wrap ((bits .and .u64 ((IntKind.u64.wrap ((bits .and .u64 (x / 2 ^ (1 : Int).toNat) 6148914691236517205) + (bits .and .u64 x 6148914691236517205))) / 2 ^ (2 : Int).toNat) 3689348814741910323) + (bits .and .u64 (IntKind.u64.wrap ((bits .and .u64 (x / 2 ^ (1 : Int).toNat) 6148914691236517205) + (bits .and .u64 x 6148914691236517205))) 3689348814741910323))))) 1085102592571150095) + ((bits .and .u64 (IntKind.u64.wrap (((IntKind.u64.wrap ((bits .and .u64 ((IntKind.u64.wrap ((bits .and .u64 (x / 2 ^ (1 : Int).toNat) 6148914691236517205) + (bits .and .u64 x 6148914691236517205))) / 2 ^ (2 : Int).toNat) 3689348814741910323) + (bits .and .u64 (IntKind.u64.wrap ((bits .and .u64 (x / 2 ^ (1 : Int).toNat) 6148914691236517205) + (bits .and .u64 x 6148914691236517205))) 3689348814741910323))) / 2 ^ (4 : Int).toNat) + (IntKind.u64.wrap ((bits .and .u64 ((IntKind.u64.wrap ((bits .and .u64 (x / 2 ^ (1 : Int).toNat) 6148914691236517205) + (bits .and .u64 x 6148914691236517205))) / 2 ^ (2 : Int).toNat) 3689348814741910323) + (bits .and .u64 (IntKind.u64.wrap ((bits .and .u64 (x / 2 ^ (1 : Int).toNat) 6148914691236517205) + (bits .and .u64 x 6148914691236517205))) 3689348814741910323))))) 1085102592571150095) / 2 ^ (8 : Int).toNat))) + ((IntKind.u64.wrap ((bits .and .u64 (IntKind.u64.wrap (((IntKind.u64.wrap ((bits .and .u64 ((IntKind.u64.wrap ((bits .and .u64 (x / 2 ^ (1 : Int).toNat) 6148914691236517205) + (bits .and .u64 x 6148914691236517205))) / 2 ^ (2 : Int).toNat) 3689348814741910323) + (bits .and .u64 (IntKind.u64.wrap ((bits .and .u64 (x / 2 ^ (1 : Int).toNat) 6148914691236517205) + (bits .and .u64 x 6148914691236517205))) 3689348814741910323))) / 2 ^ (4 : Int).toNat) + (IntKind.u64.wrap ((bits .and .u64 ((IntKind.u64.wrap ((bits .and .u64 (x / 2 ^ (1 : Int).toNat) 6148914691236517205) + (bits .and .u64 x 6148914691236517205))) / 2 ^ (2 : Int).toNat) 3689348814741910323) + (bits .and .u64 (IntKind.u64.wrap ((bits .and .u64 (x / 2 ^ (1 : Int).toNat) 6148914691236517205) + (bits .and .u64 x 6148914691236517205))) 3689348814741910323))))) 1085102592571150095) + ((bits .and .u64 (IntKind.u64.wrap (((IntKind.u64.wrap ((bits .and .u64 ((IntKind.u64.wrap ((bits .and .u64 (x / 2 ^ (1 : Int).toNat) 6148914691236517205) + (bits .and .u64 x 6148914691236517205))) / 2 ^ (2 : Int).toNat) 3689348814741910323) + (bits .and .u64 (IntKind.u64.wrap ((bits .and .u64 (x / 2 ^ (1 : Int).toNat) 6148914691236517205) + (bits .and .u64 x 6148914691236517205))) 3689348814741910323))) / 2 ^ (4 : Int).toNat) + (IntKind.u64.wrap ((bits .and .u64 ((IntKind.u64.wrap ((bits .and .u64 (x / 2 ^ (1 : Int).toNat) 6148914691236517205) + (bits .and .u64 x 6148914691236517205))) / 2 ^ (2 : Int).toNat) 3689348814741910323) + (bits .and .u64 (IntKind.u64.wrap ((bits .and .u64 (x / 2 ^ (1 : Int).toNat) 6148914691236517205) + (bits .and .u64 x 6148914691236517205))) 3689348814741910323))))) 1085102592571150095) / 2 ^ (8 : Int).toNat))) / 2 ^ (16 : Int).toNat))) + ((IntKind.u64.wrap ((IntKind.u64.wrap ((bits .and .u64 (IntKind.u64.wrap (((IntKind.u64.wrap ((bits .and .u64 ((IntKind.u64.wrap ((bits .and .u64 (x / 2 ^ (1 : Int).toNat) 6148914691236517205) + (bits .and .u64 x 6148914691236517205))) / 2 ^ (2 : Int).toNat) 3689348814741910323) + (bits .and .u64 (IntKind.u64.wrap ((bits .and .u64 (x / 2 ^ (1 : Int).toNat) 6148914691236517205) + (bits .and .u64 x 6148914691236517205))) 3689348814741910323))) / 2 ^ (4 : Int).toNat) + (IntKind.u64.wrap ((bits .and .u64 ((IntKind.u64.wrap ((bits .and .u64 (x / 2 ^ (1 : Int).toNat) 6148914691236517205) + (bits .and .u64 x 6148914691236517205))) / 2 ^ (2 : Int).toNat) 3689348814741910323) + (bits .and .u64 (IntKind.u64.wrap ((bits .and .u64 (x / 2 ^ (1 : Int).toNat) 6148914691236517205) + (bits .and .u64 x 6148914691236517205))) 3689348814741910323))))) 1085102592571150095) + ((bits .and .u64 (IntKind.u64.wrap (((IntKind.u64.wrap ((bits .and .u64 ((IntKind.u64.wrap ((bits .and .u64 (x / 2 ^ (1 : Int).toNat) 6148914691236517205) + (bits .and .u64 x 6148914691236517205))) / 2 ^ (2 : Int).toNat) 3689348814741910323) + (bits .and .u64 (IntKind.u64.wrap ((bits .and .u64 (x / 2 ^ (1 : Int).toNat) 6148914691236517205) + (bits .and .u64 x 6148914691236517205))) 3689348814741910323))) / 2 ^ (4 : Int).toNat) + (IntKind.u64.wrap ((bits .and .u64 ((IntKind.u64.wrap ((bits .and .u64 (x / 2 ^ (1 : Int).toNat) 6148914691236517205) + (bits .and .u64 x 6148914691236517205))) / 2 ^ (2 : Int).toNat) 3689348814741910323) + (bits .and .u64 (IntKind.u64.wrap ((bits .and .u64 (x / 2 ^ (1 : Int).toNat) 6148914691236517205) + (bits .and .u64 x 6148914691236517205))) 3689348814741910323))))) 1085102592571150095) / 2 ^ (8 : Int).toNat))) + ((IntKind.u64.wrap ((bits .and .u64 (IntKind.u64.wrap (((IntKind.u64.wrap ((bits .and .u64 ((IntKind.u64.wrap ((bits .and .u64 (x / 2 ^ (1 : Int).toNat) 6148914691236517205) + (bits .and .u64 x 6148914691236517205))) / 2 ^ (2 : Int).toNat) 3689348814741910323) + (bits .and .u64 (IntKind.u64.wrap ((bits .and .u64 (x / 2 ^ (1 : Int).toNat) 6148914691236517205) + (bits .and .u64 x 6148914691236517205))) 3689348814741910323))) / 2 ^ (4 : Int).toNat) + (IntKind.u64.wrap ((bits .and .u64 ((IntKind.u64.wrap ((bits .and .u64 (x / 2 ^ (1 : Int).toNat) 6148914691236517205) + (bits .and .u64 x 6148914691236517205))) / 2 ^ (2 : Int).toNat) 3689348814741910323) + (bits .and .u64 (IntKind.u64.wrap ((bits .and .u64 (x / 2 ^ (1 : Int).toNat) 6148914691236517205) + (bits .and .u64 x 6148914691236517205))) 3689348814741910323))))) 1085102592571150095) + ((bits .and .u64 (IntKind.u64.wrap (((IntKind.u64.wrap ((bits .and .u64 ((IntKind.u64.wrap ((bits .and .u64 (x / 2 ^ (1 : Int).toNat) 6148914691236517205) + (bits .and .u64 x 6148914691236517205))) / 2 ^ (2 : Int).toNat) 3689348814741910323) + (bits .and .u64 (IntKind.u64.wrap ((bits .and .u64 (x / 2 ^ (1 : Int).toNat) 6148914691236517205) + (bits .and .u64 x 6148914691236517205))) 3689348814741910323))) / 2 ^ (4 : Int).toNat) + (IntKind.u64.wrap ((bits .and .u64 ((IntKind.u64.wrap ((bits .and .u64 (x / 2 ^ (1 : Int).toNat) 6148914691236517205) + (bits .and .u64 x 6148914691236517205))) / 2 ^ (2 : Int).toNat) 3689348814741910323) + (bits .and .u64 (IntKind.u64.wrap ((bits .and .u64 (x / 2 ^ (1 : Int).toNat) 6148914691236517205) + (bits .and .u64 x 6148914691236517205))) 3689348814741910323))))) 1085102592571150095) / 2 ^ (8 : Int).toNat))) / 2 ^ (16 : Int).toNat))) / 2 ^ (32 : Int).toNat)))) 127))) rfl rfl ⟨by simp only [onesCount64_f], hE⟩

def onesCount_f (x : Int) : Int := onesCount64_f x
set_option maxRecDepth 100000 in
theorem OnesCount_ok {x : Int}  {w : World}  : Gives Try.prog 65 #[(.int .u64 x)] w fun u w' => u = (.int .i64 (onesCount_f x)) ∧ Ext w w' := by
  have hE : Ext w w := Ext.refl w
  refine gives_of_W Try.func65 rfl Try.ntmps65 rfl ?_
  refine W.seq ?_
  refine W.region (by rfl) ?_
  refine L.val rfl (op_assign rfl rfl) ?_
  refine L.nil ?_
  refine thenF_nor ?_
  refine W.seq ?_
  refine W.cond (t := false) rfl (fun h => nomatch h) (fun _ => ?_)
  refine W.skip ?_
  refine thenF_nor ?_
  refine W.seq ?_
  refine W.region (by rfl) ?_
  refine L.val rfl (op_move rfl rfl) ?_
  refine L.call (v := (.int .i64 (onesCount64_f x))) rfl (OpS.call (op_call rfl (argsC rfl argsN) Try.func94 rfl rfl) OnesCount64_ok) ?_
  intro w1 hx1
  have hE := hE.trans hx1
  refine L.val rfl (op_assign rfl rfl) ?_
  refine L.nil ?_
  refine thenF_nor ?_
  refine W.ret ?_
  exact end_ret1 (v := (.int .i64 (onesCount64_f x))) rfl rfl ⟨by simp only [onesCount_f], hE⟩

def size_f (m : Int) : Int := onesCount_f (IntKind.u64.wrap (iand m 1023))
set_option maxRecDepth 100000 in
theorem Size_ok {m : Int}  {w : World}  : Gives Try.prog 29 #[(.int .i64 m)] w fun u w' => u = (.int .i64 (size_f m)) ∧ Ext w w' := by
  have hE : Ext w w := Ext.refl w
  refine gives_of_W Try.func29 rfl Try.ntmps29 rfl ?_
  refine W.seq ?_
  refine W.region (by rfl) ?_
  refine L.val rfl (op_assign rfl rfl) ?_
  refine L.nil ?_
  refine thenF_nor ?_
  refine W.seq ?_
  refine W.region (by rfl) ?_
  refine L.val rfl (op_move rfl rfl) ?_
  refine L.val rfl (op_iand rfl rfl rfl) ?_
  refine L.val rfl (op_conv rfl rfl (by kernel_rfl) Try.underlying60) ?_
  refine L.call (v := (.int .i64 (onesCount_f (IntKind.u64.wrap (iand m 1023))))) rfl (OpS.call (op_call rfl (argsC rfl argsN) Try.func65 rfl rfl) OnesCount_ok) ?_
  intro w1 hx1
  have hE := hE.trans hx1
  refine L.val rfl (op_assign rfl rfl) ?_
  refine L.nil ?_
  refine thenF_nor ?_
  refine W.ret ?_
  exact end_ret1 (v := (.int .i64 (onesCount_f (IntKind.u64.wrap (iand m 1023))))) rfl rfl ⟨by simp only [size_f], hE⟩

def number_f (n : Nm) : Int := bits .or .u64 (IntKind.u64.wrap ((bits .or .u64 (IntKind.u64.wrap ((bits .or .u64 (IntKind.u64.wrap ((bits .or .u64 (IntKind.u64.wrap ((bits .or .u64 (IntKind.u64.wrap ((bits .or .u64 (IntKind.u64.wrap ((bits .or .u64 (IntKind.u64.wrap ((bits .or .u64 (IntKind.u64.wrap (0 * 2 ^ (8 : Int).toNat)) (IntKind.u64.wrap ((n.n0).toNat : Int))) * 2 ^ (8 : Int).toNat)) (IntKind.u64.wrap ((n.n1).toNat : Int))) * 2 ^ (8 : Int).toNat)) (IntKind.u64.wrap ((n.n2).toNat : Int))) * 2 ^ (8 : Int).toNat)) (IntKind.u64.wrap ((n.n3).toNat : Int))) * 2 ^ (8 : Int).toNat)) (IntKind.u64.wrap ((n.n4).toNat : Int))) * 2 ^ (8 : Int).toNat)) (IntKind.u64.wrap ((n.n5).toNat : Int))) * 2 ^ (8 : Int).toNat)) (IntKind.u64.wrap ((n.n6).toNat : Int))) * 2 ^ (8 : Int).toNat)) (IntKind.u64.wrap ((n.n7).toNat : Int))
set_option maxRecDepth 100000 in
theorem Number_ok {n : Nm}  {w : World}  : Gives Try.prog 66 #[(Enc.val (n : Nm))] w fun u w' => u = (.int .u64 (number_f n)) ∧ Ext w w' := by
  have hE : Ext w w := Ext.refl w
  refine gives_of_W Try.func66 rfl Try.ntmps66 rfl ?_
  refine W.seq ?_
  refine W.region (by rfl) ?_
  refine L.step rfl (op_box (cs := (Enc.cells (n : Nm))) rfl rfl rfl) ?_
  rintro _ w1 ⟨b1, rfl, hb1, hB1, hx1⟩
  have hE := hE.trans hx1
  refine L.val rfl (op_assign rfl rfl) ?_
  refine L.nil ?_
  refine thenF_nor ?_
  refine W.seq ?_
  refine W.region (by rfl) ?_
  refine L.val rfl (op_assign rfl rfl) ?_
  refine L.nil ?_
  refine thenF_nor ?_
  refine W.seq ?_
  refine W.seq ?_
  refine W.region (by rfl) ?_
  refine L.val rfl (op_load (v := (n : Nm)) rfl rfl ty24 hB1.cells) ?_
  refine L.val rfl (op_move rfl rfl) ?_
  refine L.nil ?_
  refine thenF_nor ?_
  refine W.block ?_
  refine W.unroll 9 ?_
  refine Unr.step ?_
  refine W.seq ?_
  refine W.region (by rfl) ?_
  refine L.val (v := (.bool true)) rfl (op_lss (a := 0) (b := 8) rfl rfl rfl) ?_
  refine L.nil ?_
  refine thenF_nor ?_
  refine W.seq ?_
  refine W.cond (t := true) rfl (fun _ => ?_) (fun h => nomatch h)
  refine W.skip ?_
  refine thenF_nor ?_
  refine W.seq ?_
  refine W.block ?_
  refine W.seq ?_
  refine W.region (by rfl) ?_
  refine L.val rfl (op_elem (k := 0) (cs := Nm.cs n) rfl rfl rfl Try.underlying24 one5 si5 (by decide) rfl) ?_
  refine L.val rfl (op_assign rfl rfl) ?_
  refine L.nil ?_
  refine thenF_nor ?_
  refine W.region (by rfl) ?_
  refine L.val rfl (op_move rfl rfl) ?_
  refine L.val rfl (op_ushl rfl rfl rfl (by decide) (by decide)) ?_
  refine L.val rfl (op_move rfl rfl) ?_
  refine L.val rfl (op_conv rfl rfl (by kernel_rfl) Try.underlying79) ?_
  refine L.val rfl (op_uor rfl rfl rfl) ?_
  refine L.val rfl (op_assign rfl rfl) ?_
  refine L.nil ?_
  refine blockF_nor ?_
  refine thenF_nor ?_
  refine W.region (by rfl) ?_
  refine L.val rfl (op_add (c := 1) rfl rfl rfl (by decide) (by decide)) ?_
  refine L.val rfl (op_move rfl rfl) ?_
  refine L.nil ?_
  refine thenF_nor ?_
  refine Unr.step ?_
  refine W.seq ?_
  refine W.region (by rfl) ?_
  refine L.val (v := (.bool true)) rfl (op_lss (a := 1) (b := 8) rfl rfl rfl) ?_
  refine L.nil ?_
  refine thenF_nor ?_
  refine W.seq ?_
  refine W.cond (t := true) rfl (fun _ => ?_) (fun h => nomatch h)
  refine W.skip ?_
  refine thenF_nor ?_
  refine W.seq ?_
  refine W.block ?_
  refine W.seq ?_
  refine W.region (by rfl) ?_
  refine L.val rfl (op_elem (k := 1) (cs := Nm.cs n) rfl rfl rfl Try.underlying24 one5 si5 (by decide) rfl) ?_
  refine L.val rfl (op_assign rfl rfl) ?_
  refine L.nil ?_
  refine thenF_nor ?_
  refine W.region (by rfl) ?_
  refine L.val rfl (op_move rfl rfl) ?_
  refine L.val rfl (op_ushl rfl rfl rfl (by decide) (by decide)) ?_
  refine L.val rfl (op_move rfl rfl) ?_
  refine L.val rfl (op_conv rfl rfl (by kernel_rfl) Try.underlying79) ?_
  refine L.val rfl (op_uor rfl rfl rfl) ?_
  refine L.val rfl (op_assign rfl rfl) ?_
  refine L.nil ?_
  refine blockF_nor ?_
  refine thenF_nor ?_
  refine W.region (by rfl) ?_
  refine L.val rfl (op_add (c := 2) rfl rfl rfl (by decide) (by decide)) ?_
  refine L.val rfl (op_move rfl rfl) ?_
  refine L.nil ?_
  refine thenF_nor ?_
  refine Unr.step ?_
  refine W.seq ?_
  refine W.region (by rfl) ?_
  refine L.val (v := (.bool true)) rfl (op_lss (a := 2) (b := 8) rfl rfl rfl) ?_
  refine L.nil ?_
  refine thenF_nor ?_
  refine W.seq ?_
  refine W.cond (t := true) rfl (fun _ => ?_) (fun h => nomatch h)
  refine W.skip ?_
  refine thenF_nor ?_
  refine W.seq ?_
  refine W.block ?_
  refine W.seq ?_
  refine W.region (by rfl) ?_
  refine L.val rfl (op_elem (k := 2) (cs := Nm.cs n) rfl rfl rfl Try.underlying24 one5 si5 (by decide) rfl) ?_
  refine L.val rfl (op_assign rfl rfl) ?_
  refine L.nil ?_
  refine thenF_nor ?_
  refine W.region (by rfl) ?_
  refine L.val rfl (op_move rfl rfl) ?_
  refine L.val rfl (op_ushl rfl rfl rfl (by decide) (by decide)) ?_
  refine L.val rfl (op_move rfl rfl) ?_
  refine L.val rfl (op_conv rfl rfl (by kernel_rfl) Try.underlying79) ?_
  refine L.val rfl (op_uor rfl rfl rfl) ?_
  refine L.val rfl (op_assign rfl rfl) ?_
  refine L.nil ?_
  refine blockF_nor ?_
  refine thenF_nor ?_
  refine W.region (by rfl) ?_
  refine L.val rfl (op_add (c := 3) rfl rfl rfl (by decide) (by decide)) ?_
  refine L.val rfl (op_move rfl rfl) ?_
  refine L.nil ?_
  refine thenF_nor ?_
  refine Unr.step ?_
  refine W.seq ?_
  refine W.region (by rfl) ?_
  refine L.val (v := (.bool true)) rfl (op_lss (a := 3) (b := 8) rfl rfl rfl) ?_
  refine L.nil ?_
  refine thenF_nor ?_
  refine W.seq ?_
  refine W.cond (t := true) rfl (fun _ => ?_) (fun h => nomatch h)
  refine W.skip ?_
  refine thenF_nor ?_
  refine W.seq ?_
  refine W.block ?_
  refine W.seq ?_
  refine W.region (by rfl) ?_
  refine L.val rfl (op_elem (k := 3) (cs := Nm.cs n) rfl rfl rfl Try.underlying24 one5 si5 (by decide) rfl) ?_
  refine L.val rfl (op_assign rfl rfl) ?_
  refine L.nil ?_
  refine thenF_nor ?_
  refine W.region (by rfl) ?_
  refine L.val rfl (op_move rfl rfl) ?_
  refine L.val rfl (op_ushl rfl rfl rfl (by decide) (by decide)) ?_
  refine L.val rfl (op_move rfl rfl) ?_
  refine L.val rfl (op_conv rfl rfl (by kernel_rfl) Try.underlying79) ?_
  refine L.val rfl (op_uor rfl rfl rfl) ?_
  refine L.val rfl (op_assign rfl rfl) ?_
  refine L.nil ?_
  refine blockF_nor ?_
  refine thenF_nor ?_
  refine W.region (by rfl) ?_
  refine L.val rfl (op_add (c := 4) rfl rfl rfl (by decide) (by decide)) ?_
  refine L.val rfl (op_move rfl rfl) ?_
  refine L.nil ?_
  refine thenF_nor ?_
  refine Unr.step ?_
  refine W.seq ?_
  refine W.region (by rfl) ?_
  refine L.val (v := (.bool true)) rfl (op_lss (a := 4) (b := 8) rfl rfl rfl) ?_
  refine L.nil ?_
  refine thenF_nor ?_
  refine W.seq ?_
  refine W.cond (t := true) rfl (fun _ => ?_) (fun h => nomatch h)
  refine W.skip ?_
  refine thenF_nor ?_
  refine W.seq ?_
  refine W.block ?_
  refine W.seq ?_
  refine W.region (by rfl) ?_
  refine L.val rfl (op_elem (k := 4) (cs := Nm.cs n) rfl rfl rfl Try.underlying24 one5 si5 (by decide) rfl) ?_
  refine L.val rfl (op_assign rfl rfl) ?_
  refine L.nil ?_
  refine thenF_nor ?_
  refine W.region (by rfl) ?_
  refine L.val rfl (op_move rfl rfl) ?_
  refine L.val rfl (op_ushl rfl rfl rfl (by decide) (by decide)) ?_
  refine L.val rfl (op_move rfl rfl) ?_
  refine L.val rfl (op_conv rfl rfl (by kernel_rfl) Try.underlying79) ?_
  refine L.val rfl (op_uor rfl rfl rfl) ?_
  refine L.val rfl (op_assign rfl rfl) ?_
  refine L.nil ?_
  refine blockF_nor ?_
  refine thenF_nor ?_
  refine W.region (by rfl) ?_
  refine L.val rfl (op_add (c := 5) rfl rfl rfl (by decide) (by decide)) ?_
  refine L.val rfl (op_move rfl rfl) ?_
  refine L.nil ?_
  refine thenF_nor ?_
  refine Unr.step ?_
  refine W.seq ?_
  refine W.region (by rfl) ?_
  refine L.val (v := (.bool true)) rfl (op_lss (a := 5) (b := 8) rfl rfl rfl) ?_
  refine L.nil ?_
  refine thenF_nor ?_
  refine W.seq ?_
  refine W.cond (t := true) rfl (fun _ => ?_) (fun h => nomatch h)
  refine W.skip ?_
  refine thenF_nor ?_
  refine W.seq ?_
  refine W.block ?_
  refine W.seq ?_
  refine W.region (by rfl) ?_
  refine L.val rfl (op_elem (k := 5) (cs := Nm.cs n) rfl rfl rfl Try.underlying24 one5 si5 (by decide) rfl) ?_
  refine L.val rfl (op_assign rfl rfl) ?_
  refine L.nil ?_
  refine thenF_nor ?_
  refine W.region (by rfl) ?_
  refine L.val rfl (op_move rfl rfl) ?_
  refine L.val rfl (op_ushl rfl rfl rfl (by decide) (by decide)) ?_
  refine L.val rfl (op_move rfl rfl) ?_
  refine L.val rfl (op_conv rfl rfl (by kernel_rfl) Try.underlying79) ?_
  refine L.val rfl (op_uor rfl rfl rfl) ?_
  refine L.val rfl (op_assign rfl rfl) ?_
  refine L.nil ?_
  refine blockF_nor ?_
  refine thenF_nor ?_
  refine W.region (by rfl) ?_
  refine L.val rfl (op_add (c := 6) rfl rfl rfl (by decide) (by decide)) ?_
  refine L.val rfl (op_move rfl rfl) ?_
  refine L.nil ?_
  refine thenF_nor ?_
  refine Unr.step ?_
  refine W.seq ?_
  refine W.region (by rfl) ?_
  refine L.val (v := (.bool true)) rfl (op_lss (a := 6) (b := 8) rfl rfl rfl) ?_
  refine L.nil ?_
  refine thenF_nor ?_
  refine W.seq ?_
  refine W.cond (t := true) rfl (fun _ => ?_) (fun h => nomatch h)
  refine W.skip ?_
  refine thenF_nor ?_
  refine W.seq ?_
  refine W.block ?_
  refine W.seq ?_
  refine W.region (by rfl) ?_
  refine L.val rfl (op_elem (k := 6) (cs := Nm.cs n) rfl rfl rfl Try.underlying24 one5 si5 (by decide) rfl) ?_
  refine L.val rfl (op_assign rfl rfl) ?_
  refine L.nil ?_
  refine thenF_nor ?_
  refine W.region (by rfl) ?_
  refine L.val rfl (op_move rfl rfl) ?_
  refine L.val rfl (op_ushl rfl rfl rfl (by decide) (by decide)) ?_
  refine L.val rfl (op_move rfl rfl) ?_
  refine L.val rfl (op_conv rfl rfl (by kernel_rfl) Try.underlying79) ?_
  refine L.val rfl (op_uor rfl rfl rfl) ?_
  refine L.val rfl (op_assign rfl rfl) ?_
  refine L.nil ?_
  refine blockF_nor ?_
  refine thenF_nor ?_
  refine W.region (by rfl) ?_
  refine L.val rfl (op_add (c := 7) rfl rfl rfl (by decide) (by decide)) ?_
  refine L.val rfl (op_move rfl rfl) ?_
  refine L.nil ?_
  refine thenF_nor ?_
  refine Unr.step ?_
  refine W.seq ?_
  refine W.region (by rfl) ?_
  refine L.val (v := (.bool true)) rfl (op_lss (a := 7) (b := 8) rfl rfl rfl) ?_
  refine L.nil ?_
  refine thenF_nor ?_
  refine W.seq ?_
  refine W.cond (t := true) rfl (fun _ => ?_) (fun h => nomatch h)
  refine W.skip ?_
  refine thenF_nor ?_
  refine W.seq ?_
  refine W.block ?_
  refine W.seq ?_
  refine W.region (by rfl) ?_
  refine L.val rfl (op_elem (k := 7) (cs := Nm.cs n) rfl rfl rfl Try.underlying24 one5 si5 (by decide) rfl) ?_
  refine L.val rfl (op_assign rfl rfl) ?_
  refine L.nil ?_
  refine thenF_nor ?_
  refine W.region (by rfl) ?_
  refine L.val rfl (op_move rfl rfl) ?_
  refine L.val rfl (op_ushl rfl rfl rfl (by decide) (by decide)) ?_
  refine L.val rfl (op_move rfl rfl) ?_
  refine L.val rfl (op_conv rfl rfl (by kernel_rfl) Try.underlying79) ?_
  refine L.val rfl (op_uor rfl rfl rfl) ?_
  refine L.val rfl (op_assign rfl rfl) ?_
  refine L.nil ?_
  refine blockF_nor ?_
  refine thenF_nor ?_
  refine W.region (by rfl) ?_
  refine L.val rfl (op_add (c := 8) rfl rfl rfl (by decide) (by decide)) ?_
  refine L.val rfl (op_move rfl rfl) ?_
  refine L.nil ?_
  refine thenF_nor ?_
  refine Unr.step ?_
  refine W.seq ?_
  refine W.region (by rfl) ?_
  refine L.val (v := (.bool false)) rfl (op_lss (a := 8) (b := 8) rfl rfl rfl) ?_
  refine L.nil ?_
  refine thenF_nor ?_
  refine W.seq ?_
  refine W.cond (t := false) rfl (fun h => nomatch h) (fun _ => ?_)
  refine W.exit ?_
  refine thenF_exit ?_
  refine thenF_exit ?_
  refine blockF_hit ?_
  refine thenF_nor ?_
  refine W.seq ?_
  refine W.region (by rfl) ?_
  refine L.val rfl (op_move rfl rfl) ?_
  refine L.val rfl (op_assign rfl rfl) ?_
  refine L.nil ?_
  refine thenF_nor ?_
  refine W.ret ?_
  exact end_ret1 (v := (.int .u64 (bits .or .u64 (IntKind.u64.wrap ((bits .or .u64 (IntKind.u64.wrap ((bits .or .u64 (IntKind.u64.wrap ((bits .or .u64 (IntKind.u64.wrap ((bits .or .u64 (IntKind.u64.wrap ((bits .or .u64 (IntKind.u64.wrap ((bits .or .u64 (IntKind.u64.wrap ((bits .or .u64 (IntKind.u64.wrap (0 * 2 ^ (8 : Int).toNat)) (IntKind.u64.wrap ((n.n0).toNat : Int))) * 2 ^ (8 : Int).toNat)) (IntKind.u64.wrap ((n.n1).toNat : Int))) * 2 ^ (8 : Int).toNat)) (IntKind.u64.wrap ((n.n2).toNat : Int))) * 2 ^ (8 : Int).toNat)) (IntKind.u64.wrap ((n.n3).toNat : Int))) * 2 ^ (8 : Int).toNat)) (IntKind.u64.wrap ((n.n4).toNat : Int))) * 2 ^ (8 : Int).toNat)) (IntKind.u64.wrap ((n.n5).toNat : Int))) * 2 ^ (8 : Int).toNat)) (IntKind.u64.wrap ((n.n6).toNat : Int))) * 2 ^ (8 : Int).toNat)) (IntKind.u64.wrap ((n.n7).toNat : Int))))) rfl rfl ⟨by simp only [number_f], hE⟩

def hashLess_f (a : Nm) (b : Nm) : Bool := bif decide (a = b) then false else decide ((number_f a) < (number_f b))
set_option maxRecDepth 100000 in
theorem hashLess_ok {a : Nm} {b : Nm}  {w : World}  : Gives Try.prog 34 #[(Enc.val (a : Nm)), (Enc.val (b : Nm))] w fun u w' => u = (.bool (hashLess_f a b)) ∧ Ext w w' := by
  have hE : Ext w w := Ext.refl w
  refine gives_of_W Try.func34 rfl Try.ntmps34 rfl ?_
  refine W.seq ?_
  refine W.region (by rfl) ?_
  refine L.step rfl (op_box (cs := (Enc.cells (a : Nm))) rfl rfl rfl) ?_
  rintro _ w1 ⟨b1, rfl, hb1, hB1, hx1⟩
  have hE := hE.trans hx1
  refine L.step rfl (op_box (cs := (Enc.cells (b : Nm))) rfl rfl rfl) ?_
  rintro _ w2 ⟨b2, rfl, hb2, hB2, hx2⟩
  have hE := hE.trans hx2
  have hB1 := hB1.ext hx2
  refine L.val (v := (.bool false)) rfl (op_assign rfl rfl) ?_
  refine L.nil ?_
  refine thenF_nor ?_
  refine W.seq ?_
  refine W.seq ?_
  refine W.region (by rfl) ?_
  refine L.val rfl (op_load (v := (a : Nm)) rfl rfl ty24 hB1.cells) ?_
  refine L.val rfl (op_load (v := (b : Nm)) rfl rfl ty24 hB2.cells) ?_
  refine L.val rfl (op_eqle (a := (a : Nm)) (b := (b : Nm)) rfl rfl rfl eq24 (fun _ => ⟨_, rfl⟩) Try.eqGuardType24) ?_
  refine L.nil ?_
  refine thenF_nor ?_
  refine W.cond (t := decide (a = b)) rfl (fun hc3 => ?_) (fun hc3 => ?_)
  · have hp3 := hc3
    simp only [Bool.and_eq_true, Bool.or_eq_true, Bool.and_eq_false_iff, Bool.or_eq_false_iff, Bool.not_eq_true', Bool.not_eq_false', decide_eq_true_eq, decide_eq_false_iff_not] at hp3
    refine W.seq ?_
    refine W.region (by rfl) ?_
    refine L.val (v := (.bool false)) rfl (op_assign rfl rfl) ?_
    refine L.nil ?_
    refine thenF_nor ?_
    refine W.ret ?_
    refine thenF_ret ?_
    exact end_ret1 (v := (.bool false)) rfl rfl ⟨by simp only [hashLess_f, hc3, cond_true], hE⟩
  · have hp3 := hc3
    simp only [Bool.and_eq_true, Bool.or_eq_true, Bool.and_eq_false_iff, Bool.or_eq_false_iff, Bool.not_eq_true', Bool.not_eq_false', decide_eq_true_eq, decide_eq_false_iff_not] at hp3
    refine W.skip ?_
    refine thenF_nor ?_
    refine W.seq ?_
    refine W.drawS [Sp.eq (Enc.val (a : Nm)), Sp.eq (.int .u64 (number_f a)), Sp.eq (Enc.val (b : Nm)), Sp.eq (.int .u64 (number_f b)), Sp.eq (.bool (decide ((number_f a) < (number_f b)))), Sp.eq (.bool (decide ((number_f a) < (number_f b))))] mixed (by rfl) (Obls.cons ?_ (Obls.cons ?_ (Obls.cons ?_ (Obls.cons ?_ (Obls.cons ?_ (Obls.cons ?_ Obls.nil)))))) ?_
    · intro f5 w5 hx5 ho5 hd5
      have d5_s2 : f5 2 = (.pointer (some ⟨b1, 0, none⟩)) := ho5 2 rfl
      have hB1 := hB1.ext hx5
      have hB2 := hB2.ext hx5
      exact D.val rfl (op_load (v := (a : Nm)) rfl d5_s2 ty24 hB1.cells)
    · intro f6 w6 hx6 ho6 hd6
      have d6_0 : f6 8 = (Enc.val (a : Nm)) := hd6 0 rfl
      have hB1 := hB1.ext hx6
      have hB2 := hB2.ext hx6
      exact D.call (R := (Sp.eq (.int .u64 (number_f a))).p) rfl (OpS.call (op_call rfl (argsC d6_0 argsN) Try.func66 rfl rfl) Number_ok)
    · intro f7 w7 hx7 ho7 hd7
      have d7_s3 : f7 3 = (.pointer (some ⟨b2, 0, none⟩)) := ho7 3 rfl
      have hB1 := hB1.ext hx7
      have hB2 := hB2.ext hx7
      exact D.val rfl (op_load (v := (b : Nm)) rfl d7_s3 ty24 hB2.cells)
    · intro f8 w8 hx8 ho8 hd8
      have d8_2 : f8 10 = (Enc.val (b : Nm)) := hd8 2 rfl
      have hB1 := hB1.ext hx8
      have hB2 := hB2.ext hx8
      exact D.call (R := (Sp.eq (.int .u64 (number_f b))).p) rfl (OpS.call (op_call rfl (argsC d8_2 argsN) Try.func66 rfl rfl) Number_ok)
    · intro f9 w9 hx9 ho9 hd9
      have d9_1 : f9 9 = (.int .u64 (number_f a)) := hd9 1 rfl
      have d9_3 : f9 11 = (.int .u64 (number_f b)) := hd9 3 rfl
      exact D.val rfl (op_lss rfl d9_1 d9_3)
    · intro f10 w10 hx10 ho10 hd10
      have d10_4 : f10 12 = (.bool (decide ((number_f a) < (number_f b)))) := hd10 4 rfl
      exact D.val rfl (op_assign rfl d10_4)
    intro f11 w11 hx11 ho11 hr11
    have s0 : f11 0 = (Enc.val (a : Nm)) := ho11 0 rfl
    have s1 : f11 1 = (Enc.val (b : Nm)) := ho11 1 rfl
    have s2 : f11 2 = (.pointer (some ⟨b1, 0, none⟩)) := ho11 2 rfl
    have s3 : f11 3 = (.pointer (some ⟨b2, 0, none⟩)) := ho11 3 rfl
    have s7 : f11 7 = (.bool (decide (a = b))) := ho11 7 rfl
    have s4 : f11 4 = (.bool (decide ((number_f a) < (number_f b)))) := hr11 5 (by decide)
    have hE := hE.trans hx11
    have hB1 := hB1.ext hx11
    have hB2 := hB2.ext hx11
    refine thenF_nor ?_
    refine W.ret ?_
    exact end_ret1 (v := (.bool (decide ((number_f a) < (number_f b))))) rfl s4 ⟨by simp only [hashLess_f, hc3, cond_false], hE⟩

def voteLess_f (a : Vt) (b : Vt) : Bool := bif !decide (a.parent = b.parent) then hashLess_f a.parent b.parent else (bif !decide (a.slot = b.slot) then decide (a.slot < b.slot) else (bif !decide (a.round = b.round) then decide (a.round < b.round) else (bif !decide (a.kind = b.kind) then decide (a.kind < b.kind) else (bif !decide (a.signer = b.signer) then decide (a.signer < b.signer) else (bif !decide (a.choice = b.choice) then decide (a.choice < b.choice) else (bif !decide (a.value = b.value) then hashLess_f a.value b.value else decide (a.support < b.support)))))))
set_option maxRecDepth 100000 in
set_option maxHeartbeats 8000000 in
theorem voteLess_ok {a : Vt} {b : Vt}  {w : World}  : Gives Try.prog 21 #[(Enc.val (a : Vt)), (Enc.val (b : Vt))] w fun u w' => u = (.bool (voteLess_f a b)) ∧ Ext w w' := by
  have hE : Ext w w := Ext.refl w
  refine gives_of_W Try.func21 rfl Try.ntmps21 rfl ?_
  refine W.seq ?_
  refine W.region (by rfl) ?_
  refine L.step rfl (op_box (cs := (Enc.cells (a : Vt))) rfl rfl rfl) ?_
  rintro _ w1 ⟨b1, rfl, hb1, hB1, hx1⟩
  have hE := hE.trans hx1
  refine L.step rfl (op_box (cs := (Enc.cells (b : Vt))) rfl rfl rfl) ?_
  rintro _ w2 ⟨b2, rfl, hb2, hB2, hx2⟩
  have hE := hE.trans hx2
  have hB1 := hB1.ext hx2
  refine L.val (v := (.bool false)) rfl (op_assign rfl rfl) ?_
  refine L.nil ?_
  refine thenF_nor ?_
  refine W.seq ?_
  refine W.seq ?_
  refine W.region (by rfl) ?_
  refine L.val rfl (op_field rfl rfl fo28_6 rfl) ?_
  refine L.val rfl (op_load (v := (a.parent : Nm)) rfl rfl ty24 (sub_nm 6 hB1.cells rfl)) ?_
  refine L.val rfl (op_field rfl rfl fo28_6 rfl) ?_
  refine L.val rfl (op_load (v := (b.parent : Nm)) rfl rfl ty24 (sub_nm 6 hB2.cells rfl)) ?_
  refine L.val rfl (op_neqe (a := (a.parent : Nm)) (b := (b.parent : Nm)) rfl rfl rfl eq24 (fun _ => ⟨_, rfl⟩) Try.eqGuardType24) ?_
  refine L.nil ?_
  refine thenF_nor ?_
  refine W.cond (t := !decide (a.parent = b.parent)) rfl (fun hc3 => ?_) (fun hc3 => ?_)
  · have hp3 := hc3
    simp only [Bool.and_eq_true, Bool.or_eq_true, Bool.and_eq_false_iff, Bool.or_eq_false_iff, Bool.not_eq_true', Bool.not_eq_false', decide_eq_true_eq, decide_eq_false_iff_not] at hp3
    refine W.seq ?_
    refine W.region (by rfl) ?_
    refine L.val rfl (op_field rfl rfl fo28_6 rfl) ?_
    refine L.val rfl (op_load (v := (a.parent : Nm)) rfl rfl ty24 (sub_nm 6 hB1.cells rfl)) ?_
    refine L.val rfl (op_field rfl rfl fo28_6 rfl) ?_
    refine L.val rfl (op_load (v := (b.parent : Nm)) rfl rfl ty24 (sub_nm 6 hB2.cells rfl)) ?_
    refine L.call (v := (.bool (hashLess_f a.parent b.parent))) rfl (OpS.call (op_call rfl (argsC rfl (argsC rfl argsN)) Try.func34 rfl rfl) hashLess_ok) ?_
    intro w4 hx4
    have hE := hE.trans hx4
    have hB1 := hB1.ext hx4
    have hB2 := hB2.ext hx4
    refine L.val rfl (op_assign rfl rfl) ?_
    refine L.nil ?_
    refine thenF_nor ?_
    refine W.ret ?_
    refine thenF_ret ?_
    exact end_ret1 (v := (.bool (hashLess_f a.parent b.parent))) rfl rfl ⟨by simp only [voteLess_f, hc3, cond_true], hE⟩
  · have hp3 := hc3
    simp only [Bool.and_eq_true, Bool.or_eq_true, Bool.and_eq_false_iff, Bool.or_eq_false_iff, Bool.not_eq_true', Bool.not_eq_false', decide_eq_true_eq, decide_eq_false_iff_not] at hp3
    refine W.skip ?_
    refine thenF_nor ?_
    refine W.seq ?_
    refine W.region (by rfl) ?_
    refine L.val rfl (op_field rfl rfl fo28_1 rfl) ?_
    refine L.val rfl (op_load1 rfl rfl one3 (hB1.cells.one (n := 1) rfl)) ?_
    refine L.val rfl (op_field rfl rfl fo28_2 rfl) ?_
    refine L.val rfl (op_load1 rfl rfl one3 (hB1.cells.one (n := 2) rfl)) ?_
    refine L.val rfl (op_field rfl rfl fo28_0 rfl) ?_
    refine L.val rfl (op_load1 rfl rfl one3 (hB1.cells.one (n := 0) rfl)) ?_
    refine L.val rfl (op_field rfl rfl fo28_4 rfl) ?_
    refine L.val rfl (op_load1 rfl rfl one3 (hB1.cells.one (n := 4) rfl)) ?_
    refine L.val rfl (op_field rfl rfl fo28_3 rfl) ?_
    refine L.val rfl (op_load1 rfl rfl one3 (hB1.cells.one (n := 3) rfl)) ?_
    refine L.val rfl (op_build (v := (.agg #[(.int .i64 a.slot), (.int .i64 a.round), (.int .i64 a.kind), (.int .i64 a.signer), (.int .i64 a.choice)])) (cs := [(.int .i64 a.slot), (.int .i64 a.round), (.int .i64 a.kind), (.int .i64 a.signer), (.int .i64 a.choice)]) rfl (partsC rfl (partsC rfl (partsC rfl (partsC rfl (partsC rfl partsN))))) (by kernel_rfl) rfl) ?_
    refine L.newvar (v := (.agg #[(.int .i64 a.slot), (.int .i64 a.round), (.int .i64 a.kind), (.int .i64 a.signer), (.int .i64 a.choice)])) (cs := [(.int .i64 a.slot), (.int .i64 a.round), (.int .i64 a.kind), (.int .i64 a.signer), (.int .i64 a.choice)]) rfl rfl rfl rfl rfl rfl (fun _ => rfl) rfl si70 zs70 (by intro u hu; simp at hu; rcases hu with rfl | rfl | rfl | rfl | rfl <;> rfl) ?_
    intro b5 w5 hb5 hB5 hx5
    have hbb5_hE := Nat.le_trans hE.size hb5
    have hE := hE.trans hx5
    have hB1 := hB1.ext hx5
    have hB2 := hB2.ext hx5
    refine L.nil ?_
    refine thenF_nor ?_
    refine W.seq ?_
    refine W.region (by rfl) ?_
    refine L.val rfl (op_field rfl rfl fo28_1 rfl) ?_
    refine L.val rfl (op_load1 rfl rfl one3 (hB2.cells.one (n := 1) rfl)) ?_
    refine L.val rfl (op_field rfl rfl fo28_2 rfl) ?_
    refine L.val rfl (op_load1 rfl rfl one3 (hB2.cells.one (n := 2) rfl)) ?_
    refine L.val rfl (op_field rfl rfl fo28_0 rfl) ?_
    refine L.val rfl (op_load1 rfl rfl one3 (hB2.cells.one (n := 0) rfl)) ?_
    refine L.val rfl (op_field rfl rfl fo28_4 rfl) ?_
    refine L.val rfl (op_load1 rfl rfl one3 (hB2.cells.one (n := 4) rfl)) ?_
    refine L.val rfl (op_field rfl rfl fo28_3 rfl) ?_
    refine L.val rfl (op_load1 rfl rfl one3 (hB2.cells.one (n := 3) rfl)) ?_
    refine L.val rfl (op_build (v := (.agg #[(.int .i64 b.slot), (.int .i64 b.round), (.int .i64 b.kind), (.int .i64 b.signer), (.int .i64 b.choice)])) (cs := [(.int .i64 b.slot), (.int .i64 b.round), (.int .i64 b.kind), (.int .i64 b.signer), (.int .i64 b.choice)]) rfl (partsC rfl (partsC rfl (partsC rfl (partsC rfl (partsC rfl partsN))))) (by kernel_rfl) rfl) ?_
    refine L.newvar (v := (.agg #[(.int .i64 b.slot), (.int .i64 b.round), (.int .i64 b.kind), (.int .i64 b.signer), (.int .i64 b.choice)])) (cs := [(.int .i64 b.slot), (.int .i64 b.round), (.int .i64 b.kind), (.int .i64 b.signer), (.int .i64 b.choice)]) rfl rfl rfl rfl rfl rfl (fun _ => rfl) rfl si70 zs70 (by intro u hu; simp at hu; rcases hu with rfl | rfl | rfl | rfl | rfl <;> rfl) ?_
    intro b6 w6 hb6 hB6 hx6
    have hbb6_hE := Nat.le_trans hE.size hb6
    have hE := hE.trans hx6
    have hB1 := hB1.ext hx6
    have hB2 := hB2.ext hx6
    have hB5 := hB5.ext hx6
    refine L.nil ?_
    refine thenF_nor ?_
    refine W.seq ?_
    refine W.seq ?_
    refine W.region (by rfl) ?_
    refine L.val rfl (op_move rfl rfl) ?_
    refine L.nil ?_
    refine thenF_nor ?_
    refine W.block ?_
    refine W.unroll 6 ?_
    refine Unr.step ?_
    refine W.seq ?_
    refine W.region (by rfl) ?_
    refine L.val (v := (.bool true)) rfl (op_lss (a := 0) (b := 5) rfl rfl rfl) ?_
    refine L.nil ?_
    refine thenF_nor ?_
    refine W.seq ?_
    refine W.cond (t := true) rfl (fun _ => ?_) (fun h => nomatch h)
    refine W.skip ?_
    refine thenF_nor ?_
    refine W.seq ?_
    refine W.block ?_
    refine W.seq ?_
    refine W.region (by rfl) ?_
    refine L.val rfl (op_move rfl rfl) ?_
    refine L.val rfl (op_assign rfl rfl) ?_
    refine L.nil ?_
    refine thenF_nor ?_
    refine W.seq ?_
    refine W.drawS [Sp.eq (.int .i64 0), Sp.eq (.pointer (some ⟨b5, 0, none⟩)), Sp.eq (.int .i64 a.slot), Sp.eq (.int .i64 0), Sp.eq (.pointer (some ⟨b6, 0, none⟩)), Sp.eq (.int .i64 b.slot), Sp.eq (.bool (!decide (a.slot = b.slot)))] mixed (by rfl) (Obls.cons ?_ (Obls.cons ?_ (Obls.cons ?_ (Obls.cons ?_ (Obls.cons ?_ (Obls.cons ?_ (Obls.cons ?_ Obls.nil))))))) ?_
    · intro f8 w8 hx8 ho8 hd8
      have d8_s7 : f8 7 = (.int .i64 0) := ho8 7 rfl
      exact D.val rfl (op_move rfl d8_s7)
    · intro f9 w9 hx9 ho9 hd9
      have d9_s5 : f9 5 = (.pointer (some ⟨b5, 0, none⟩)) := ho9 5 rfl
      have d9_0 : f9 43 = (.int .i64 0) := hd9 0 rfl
      have hB1 := hB1.ext hx9
      have hB2 := hB2.ext hx9
      have hB5 := hB5.ext hx9
      have hB6 := hB6.ext hx9
      exact D.val rfl (op_elemAddr (k := 0) rfl d9_s5 d9_0 Try.underlying70 si3 (by decide) rfl)
    · intro f10 w10 hx10 ho10 hd10
      have d10_1 : f10 44 = (.pointer (some ⟨b5, 0, none⟩)) := hd10 1 rfl
      have hB1 := hB1.ext hx10
      have hB2 := hB2.ext hx10
      have hB5 := hB5.ext hx10
      have hB6 := hB6.ext hx10
      exact D.val rfl (op_load1 rfl d10_1 one3 (hB5.cells.one (n := 0) rfl))
    · intro f11 w11 hx11 ho11 hd11
      have d11_s7 : f11 7 = (.int .i64 0) := ho11 7 rfl
      exact D.val rfl (op_move rfl d11_s7)
    · intro f12 w12 hx12 ho12 hd12
      have d12_s6 : f12 6 = (.pointer (some ⟨b6, 0, none⟩)) := ho12 6 rfl
      have d12_3 : f12 46 = (.int .i64 0) := hd12 3 rfl
      have hB1 := hB1.ext hx12
      have hB2 := hB2.ext hx12
      have hB5 := hB5.ext hx12
      have hB6 := hB6.ext hx12
      exact D.val rfl (op_elemAddr (k := 0) rfl d12_s6 d12_3 Try.underlying70 si3 (by decide) rfl)
    · intro f13 w13 hx13 ho13 hd13
      have d13_4 : f13 47 = (.pointer (some ⟨b6, 0, none⟩)) := hd13 4 rfl
      have hB1 := hB1.ext hx13
      have hB2 := hB2.ext hx13
      have hB5 := hB5.ext hx13
      have hB6 := hB6.ext hx13
      exact D.val rfl (op_load1 rfl d13_4 one3 (hB6.cells.one (n := 0) rfl))
    · intro f14 w14 hx14 ho14 hd14
      have d14_2 : f14 45 = (.int .i64 a.slot) := hd14 2 rfl
      have d14_5 : f14 48 = (.int .i64 b.slot) := hd14 5 rfl
      exact D.val rfl (op_neq rfl d14_2 d14_5)
    intro f15 w15 hx15 ho15 hr15
    have s0 : f15 0 = (Enc.val (a : Vt)) := ho15 0 rfl
    have s1 : f15 1 = (Enc.val (b : Vt)) := ho15 1 rfl
    have s2 : f15 2 = (.pointer (some ⟨b1, 0, none⟩)) := ho15 2 rfl
    have s3 : f15 3 = (.pointer (some ⟨b2, 0, none⟩)) := ho15 3 rfl
    have s4 : f15 4 = (.bool false) := ho15 4 rfl
    have s5 : f15 5 = (.pointer (some ⟨b5, 0, none⟩)) := ho15 5 rfl
    have s6 : f15 6 = (.pointer (some ⟨b6, 0, none⟩)) := ho15 6 rfl
    have s7 : f15 7 = (.int .i64 0) := ho15 7 rfl
    have s12 : f15 12 = (.bool (!decide (a.parent = b.parent))) := ho15 12 rfl
    have s40 : f15 40 = (.int .i64 0) := ho15 40 rfl
    have s41 : f15 41 = (.bool true) := ho15 41 rfl
    have s49 : f15 49 = (.bool (!decide (a.slot = b.slot))) := hr15 6 (by decide)
    have hE := hE.trans hx15
    have hB1 := hB1.ext hx15
    have hB2 := hB2.ext hx15
    have hB5 := hB5.ext hx15
    have hB6 := hB6.ext hx15
    refine thenF_nor ?_
    refine W.cond (t := !decide (a.slot = b.slot)) s49 (fun hc16 => ?_) (fun hc16 => ?_)
    · have hp16 := hc16
      simp only [Bool.and_eq_true, Bool.or_eq_true, Bool.and_eq_false_iff, Bool.or_eq_false_iff, Bool.not_eq_true', Bool.not_eq_false', decide_eq_true_eq, decide_eq_false_iff_not] at hp16
      refine W.seq ?_
      refine W.drawS [Sp.eq (.int .i64 0), Sp.eq (.pointer (some ⟨b5, 0, none⟩)), Sp.eq (.int .i64 a.slot), Sp.eq (.int .i64 0), Sp.eq (.pointer (some ⟨b6, 0, none⟩)), Sp.eq (.int .i64 b.slot), Sp.eq (.bool (decide (a.slot < b.slot))), Sp.eq (.bool (decide (a.slot < b.slot)))] mixed (by rfl) (Obls.cons ?_ (Obls.cons ?_ (Obls.cons ?_ (Obls.cons ?_ (Obls.cons ?_ (Obls.cons ?_ (Obls.cons ?_ (Obls.cons ?_ Obls.nil)))))))) ?_
      · intro f18 w18 hx18 ho18 hd18
        have d18_s7 : f18 7 = (.int .i64 0) := (ho18 7 rfl).trans s7
        exact D.val rfl (op_move rfl d18_s7)
      · intro f19 w19 hx19 ho19 hd19
        have d19_s5 : f19 5 = (.pointer (some ⟨b5, 0, none⟩)) := (ho19 5 rfl).trans s5
        have d19_0 : f19 50 = (.int .i64 0) := hd19 0 rfl
        have hB1 := hB1.ext hx19
        have hB2 := hB2.ext hx19
        have hB5 := hB5.ext hx19
        have hB6 := hB6.ext hx19
        exact D.val rfl (op_elemAddr (k := 0) rfl d19_s5 d19_0 Try.underlying70 si3 (by decide) rfl)
      · intro f20 w20 hx20 ho20 hd20
        have d20_1 : f20 51 = (.pointer (some ⟨b5, 0, none⟩)) := hd20 1 rfl
        have hB1 := hB1.ext hx20
        have hB2 := hB2.ext hx20
        have hB5 := hB5.ext hx20
        have hB6 := hB6.ext hx20
        exact D.val rfl (op_load1 rfl d20_1 one3 (hB5.cells.one (n := 0) rfl))
      · intro f21 w21 hx21 ho21 hd21
        have d21_s7 : f21 7 = (.int .i64 0) := (ho21 7 rfl).trans s7
        exact D.val rfl (op_move rfl d21_s7)
      · intro f22 w22 hx22 ho22 hd22
        have d22_s6 : f22 6 = (.pointer (some ⟨b6, 0, none⟩)) := (ho22 6 rfl).trans s6
        have d22_3 : f22 53 = (.int .i64 0) := hd22 3 rfl
        have hB1 := hB1.ext hx22
        have hB2 := hB2.ext hx22
        have hB5 := hB5.ext hx22
        have hB6 := hB6.ext hx22
        exact D.val rfl (op_elemAddr (k := 0) rfl d22_s6 d22_3 Try.underlying70 si3 (by decide) rfl)
      · intro f23 w23 hx23 ho23 hd23
        have d23_4 : f23 54 = (.pointer (some ⟨b6, 0, none⟩)) := hd23 4 rfl
        have hB1 := hB1.ext hx23
        have hB2 := hB2.ext hx23
        have hB5 := hB5.ext hx23
        have hB6 := hB6.ext hx23
        exact D.val rfl (op_load1 rfl d23_4 one3 (hB6.cells.one (n := 0) rfl))
      · intro f24 w24 hx24 ho24 hd24
        have d24_2 : f24 52 = (.int .i64 a.slot) := hd24 2 rfl
        have d24_5 : f24 55 = (.int .i64 b.slot) := hd24 5 rfl
        exact D.val rfl (op_lss rfl d24_2 d24_5)
      · intro f25 w25 hx25 ho25 hd25
        have d25_6 : f25 56 = (.bool (decide (a.slot < b.slot))) := hd25 6 rfl
        exact D.val rfl (op_assign rfl d25_6)
      intro f26 w26 hx26 ho26 hr26
      have s0 : f26 0 = (Enc.val (a : Vt)) := (ho26 0 rfl).trans s0
      have s1 : f26 1 = (Enc.val (b : Vt)) := (ho26 1 rfl).trans s1
      have s2 : f26 2 = (.pointer (some ⟨b1, 0, none⟩)) := (ho26 2 rfl).trans s2
      have s3 : f26 3 = (.pointer (some ⟨b2, 0, none⟩)) := (ho26 3 rfl).trans s3
      have s5 : f26 5 = (.pointer (some ⟨b5, 0, none⟩)) := (ho26 5 rfl).trans s5
      have s6 : f26 6 = (.pointer (some ⟨b6, 0, none⟩)) := (ho26 6 rfl).trans s6
      have s7 : f26 7 = (.int .i64 0) := (ho26 7 rfl).trans s7
      have s12 : f26 12 = (.bool (!decide (a.parent = b.parent))) := (ho26 12 rfl).trans s12
      have s40 : f26 40 = (.int .i64 0) := (ho26 40 rfl).trans s40
      have s41 : f26 41 = (.bool true) := (ho26 41 rfl).trans s41
      have s49 : f26 49 = (.bool (!decide (a.slot = b.slot))) := (ho26 49 rfl).trans s49
      have s4 : f26 4 = (.bool (decide (a.slot < b.slot))) := hr26 7 (by decide)
      have hE := hE.trans hx26
      have hB1 := hB1.ext hx26
      have hB2 := hB2.ext hx26
      have hB5 := hB5.ext hx26
      have hB6 := hB6.ext hx26
      refine thenF_nor ?_
      refine W.ret ?_
      refine blockF_ret ?_
      refine thenF_ret ?_
      refine thenF_ret ?_
      refine blockF_ret ?_
      refine thenF_ret ?_
      exact end_ret1 (v := (.bool (decide (a.slot < b.slot)))) rfl s4 ⟨by simp only [voteLess_f, hc3, hc16, cond_true, cond_false], hE⟩
    · have hp16 := hc16
      simp only [Bool.and_eq_true, Bool.or_eq_true, Bool.and_eq_false_iff, Bool.or_eq_false_iff, Bool.not_eq_true', Bool.not_eq_false', decide_eq_true_eq, decide_eq_false_iff_not] at hp16
      refine W.skip ?_
      refine blockF_nor ?_
      refine thenF_nor ?_
      refine W.region (by rfl) ?_
      refine L.val rfl (op_add (c := 1) rfl s40 rfl (by decide) (by decide)) ?_
      refine L.val rfl (op_move rfl rfl) ?_
      refine L.nil ?_
      refine thenF_nor ?_
      refine Unr.step ?_
      refine W.seq ?_
      refine W.region (by rfl) ?_
      refine L.val (v := (.bool true)) rfl (op_lss (a := 1) (b := 5) rfl rfl rfl) ?_
      refine L.nil ?_
      refine thenF_nor ?_
      refine W.seq ?_
      refine W.cond (t := true) rfl (fun _ => ?_) (fun h => nomatch h)
      refine W.skip ?_
      refine thenF_nor ?_
      refine W.seq ?_
      refine W.block ?_
      refine W.seq ?_
      refine W.region (by rfl) ?_
      refine L.val rfl (op_move rfl rfl) ?_
      refine L.val rfl (op_assign rfl rfl) ?_
      refine L.nil ?_
      refine thenF_nor ?_
      refine W.seq ?_
      refine W.drawS [Sp.eq (.int .i64 1), Sp.eq (.pointer (some ⟨b5, 1, none⟩)), Sp.eq (.int .i64 a.round), Sp.eq (.int .i64 1), Sp.eq (.pointer (some ⟨b6, 1, none⟩)), Sp.eq (.int .i64 b.round), Sp.eq (.bool (!decide (a.round = b.round)))] mixed (by rfl) (Obls.cons ?_ (Obls.cons ?_ (Obls.cons ?_ (Obls.cons ?_ (Obls.cons ?_ (Obls.cons ?_ (Obls.cons ?_ Obls.nil))))))) ?_
      · intro f28 w28 hx28 ho28 hd28
        have d28_s7 : f28 7 = (.int .i64 1) := ho28 7 rfl
        exact D.val rfl (op_move rfl d28_s7)
      · intro f29 w29 hx29 ho29 hd29
        have d29_s5 : f29 5 = (.pointer (some ⟨b5, 0, none⟩)) := (ho29 5 rfl).trans s5
        have d29_0 : f29 43 = (.int .i64 1) := hd29 0 rfl
        have hB1 := hB1.ext hx29
        have hB2 := hB2.ext hx29
        have hB5 := hB5.ext hx29
        have hB6 := hB6.ext hx29
        exact D.val rfl (op_elemAddr (k := 1) rfl d29_s5 d29_0 Try.underlying70 si3 (by decide) rfl)
      · intro f30 w30 hx30 ho30 hd30
        have d30_1 : f30 44 = (.pointer (some ⟨b5, 1, none⟩)) := hd30 1 rfl
        have hB1 := hB1.ext hx30
        have hB2 := hB2.ext hx30
        have hB5 := hB5.ext hx30
        have hB6 := hB6.ext hx30
        exact D.val rfl (op_load1 rfl d30_1 one3 (hB5.cells.one (n := 1) rfl))
      · intro f31 w31 hx31 ho31 hd31
        have d31_s7 : f31 7 = (.int .i64 1) := ho31 7 rfl
        exact D.val rfl (op_move rfl d31_s7)
      · intro f32 w32 hx32 ho32 hd32
        have d32_s6 : f32 6 = (.pointer (some ⟨b6, 0, none⟩)) := (ho32 6 rfl).trans s6
        have d32_3 : f32 46 = (.int .i64 1) := hd32 3 rfl
        have hB1 := hB1.ext hx32
        have hB2 := hB2.ext hx32
        have hB5 := hB5.ext hx32
        have hB6 := hB6.ext hx32
        exact D.val rfl (op_elemAddr (k := 1) rfl d32_s6 d32_3 Try.underlying70 si3 (by decide) rfl)
      · intro f33 w33 hx33 ho33 hd33
        have d33_4 : f33 47 = (.pointer (some ⟨b6, 1, none⟩)) := hd33 4 rfl
        have hB1 := hB1.ext hx33
        have hB2 := hB2.ext hx33
        have hB5 := hB5.ext hx33
        have hB6 := hB6.ext hx33
        exact D.val rfl (op_load1 rfl d33_4 one3 (hB6.cells.one (n := 1) rfl))
      · intro f34 w34 hx34 ho34 hd34
        have d34_2 : f34 45 = (.int .i64 a.round) := hd34 2 rfl
        have d34_5 : f34 48 = (.int .i64 b.round) := hd34 5 rfl
        exact D.val rfl (op_neq rfl d34_2 d34_5)
      intro f35 w35 hx35 ho35 hr35
      have s0 : f35 0 = (Enc.val (a : Vt)) := (ho35 0 rfl).trans s0
      have s1 : f35 1 = (Enc.val (b : Vt)) := (ho35 1 rfl).trans s1
      have s2 : f35 2 = (.pointer (some ⟨b1, 0, none⟩)) := (ho35 2 rfl).trans s2
      have s3 : f35 3 = (.pointer (some ⟨b2, 0, none⟩)) := (ho35 3 rfl).trans s3
      have s4 : f35 4 = (.bool false) := (ho35 4 rfl).trans s4
      have s5 : f35 5 = (.pointer (some ⟨b5, 0, none⟩)) := (ho35 5 rfl).trans s5
      have s6 : f35 6 = (.pointer (some ⟨b6, 0, none⟩)) := (ho35 6 rfl).trans s6
      have s7 : f35 7 = (.int .i64 1) := ho35 7 rfl
      have s12 : f35 12 = (.bool (!decide (a.parent = b.parent))) := (ho35 12 rfl).trans s12
      have s40 : f35 40 = (.int .i64 1) := ho35 40 rfl
      have s41 : f35 41 = (.bool true) := ho35 41 rfl
      have s49 : f35 49 = (.bool (!decide (a.round = b.round))) := hr35 6 (by decide)
      have hE := hE.trans hx35
      have hB1 := hB1.ext hx35
      have hB2 := hB2.ext hx35
      have hB5 := hB5.ext hx35
      have hB6 := hB6.ext hx35
      refine thenF_nor ?_
      refine W.cond (t := !decide (a.round = b.round)) s49 (fun hc36 => ?_) (fun hc36 => ?_)
      · have hp36 := hc36
        simp only [Bool.and_eq_true, Bool.or_eq_true, Bool.and_eq_false_iff, Bool.or_eq_false_iff, Bool.not_eq_true', Bool.not_eq_false', decide_eq_true_eq, decide_eq_false_iff_not] at hp36
        refine W.seq ?_
        refine W.drawS [Sp.eq (.int .i64 1), Sp.eq (.pointer (some ⟨b5, 1, none⟩)), Sp.eq (.int .i64 a.round), Sp.eq (.int .i64 1), Sp.eq (.pointer (some ⟨b6, 1, none⟩)), Sp.eq (.int .i64 b.round), Sp.eq (.bool (decide (a.round < b.round))), Sp.eq (.bool (decide (a.round < b.round)))] mixed (by rfl) (Obls.cons ?_ (Obls.cons ?_ (Obls.cons ?_ (Obls.cons ?_ (Obls.cons ?_ (Obls.cons ?_ (Obls.cons ?_ (Obls.cons ?_ Obls.nil)))))))) ?_
        · intro f38 w38 hx38 ho38 hd38
          have d38_s7 : f38 7 = (.int .i64 1) := (ho38 7 rfl).trans s7
          exact D.val rfl (op_move rfl d38_s7)
        · intro f39 w39 hx39 ho39 hd39
          have d39_s5 : f39 5 = (.pointer (some ⟨b5, 0, none⟩)) := (ho39 5 rfl).trans s5
          have d39_0 : f39 50 = (.int .i64 1) := hd39 0 rfl
          have hB1 := hB1.ext hx39
          have hB2 := hB2.ext hx39
          have hB5 := hB5.ext hx39
          have hB6 := hB6.ext hx39
          exact D.val rfl (op_elemAddr (k := 1) rfl d39_s5 d39_0 Try.underlying70 si3 (by decide) rfl)
        · intro f40 w40 hx40 ho40 hd40
          have d40_1 : f40 51 = (.pointer (some ⟨b5, 1, none⟩)) := hd40 1 rfl
          have hB1 := hB1.ext hx40
          have hB2 := hB2.ext hx40
          have hB5 := hB5.ext hx40
          have hB6 := hB6.ext hx40
          exact D.val rfl (op_load1 rfl d40_1 one3 (hB5.cells.one (n := 1) rfl))
        · intro f41 w41 hx41 ho41 hd41
          have d41_s7 : f41 7 = (.int .i64 1) := (ho41 7 rfl).trans s7
          exact D.val rfl (op_move rfl d41_s7)
        · intro f42 w42 hx42 ho42 hd42
          have d42_s6 : f42 6 = (.pointer (some ⟨b6, 0, none⟩)) := (ho42 6 rfl).trans s6
          have d42_3 : f42 53 = (.int .i64 1) := hd42 3 rfl
          have hB1 := hB1.ext hx42
          have hB2 := hB2.ext hx42
          have hB5 := hB5.ext hx42
          have hB6 := hB6.ext hx42
          exact D.val rfl (op_elemAddr (k := 1) rfl d42_s6 d42_3 Try.underlying70 si3 (by decide) rfl)
        · intro f43 w43 hx43 ho43 hd43
          have d43_4 : f43 54 = (.pointer (some ⟨b6, 1, none⟩)) := hd43 4 rfl
          have hB1 := hB1.ext hx43
          have hB2 := hB2.ext hx43
          have hB5 := hB5.ext hx43
          have hB6 := hB6.ext hx43
          exact D.val rfl (op_load1 rfl d43_4 one3 (hB6.cells.one (n := 1) rfl))
        · intro f44 w44 hx44 ho44 hd44
          have d44_2 : f44 52 = (.int .i64 a.round) := hd44 2 rfl
          have d44_5 : f44 55 = (.int .i64 b.round) := hd44 5 rfl
          exact D.val rfl (op_lss rfl d44_2 d44_5)
        · intro f45 w45 hx45 ho45 hd45
          have d45_6 : f45 56 = (.bool (decide (a.round < b.round))) := hd45 6 rfl
          exact D.val rfl (op_assign rfl d45_6)
        intro f46 w46 hx46 ho46 hr46
        have s0 : f46 0 = (Enc.val (a : Vt)) := (ho46 0 rfl).trans s0
        have s1 : f46 1 = (Enc.val (b : Vt)) := (ho46 1 rfl).trans s1
        have s2 : f46 2 = (.pointer (some ⟨b1, 0, none⟩)) := (ho46 2 rfl).trans s2
        have s3 : f46 3 = (.pointer (some ⟨b2, 0, none⟩)) := (ho46 3 rfl).trans s3
        have s5 : f46 5 = (.pointer (some ⟨b5, 0, none⟩)) := (ho46 5 rfl).trans s5
        have s6 : f46 6 = (.pointer (some ⟨b6, 0, none⟩)) := (ho46 6 rfl).trans s6
        have s7 : f46 7 = (.int .i64 1) := (ho46 7 rfl).trans s7
        have s12 : f46 12 = (.bool (!decide (a.parent = b.parent))) := (ho46 12 rfl).trans s12
        have s40 : f46 40 = (.int .i64 1) := (ho46 40 rfl).trans s40
        have s41 : f46 41 = (.bool true) := (ho46 41 rfl).trans s41
        have s49 : f46 49 = (.bool (!decide (a.round = b.round))) := (ho46 49 rfl).trans s49
        have s4 : f46 4 = (.bool (decide (a.round < b.round))) := hr46 7 (by decide)
        have hE := hE.trans hx46
        have hB1 := hB1.ext hx46
        have hB2 := hB2.ext hx46
        have hB5 := hB5.ext hx46
        have hB6 := hB6.ext hx46
        refine thenF_nor ?_
        refine W.ret ?_
        refine blockF_ret ?_
        refine thenF_ret ?_
        refine thenF_ret ?_
        refine blockF_ret ?_
        refine thenF_ret ?_
        exact end_ret1 (v := (.bool (decide (a.round < b.round)))) rfl s4 ⟨by simp only [voteLess_f, hc3, hc16, hc36, cond_true, cond_false], hE⟩
      · have hp36 := hc36
        simp only [Bool.and_eq_true, Bool.or_eq_true, Bool.and_eq_false_iff, Bool.or_eq_false_iff, Bool.not_eq_true', Bool.not_eq_false', decide_eq_true_eq, decide_eq_false_iff_not] at hp36
        refine W.skip ?_
        refine blockF_nor ?_
        refine thenF_nor ?_
        refine W.region (by rfl) ?_
        refine L.val rfl (op_add (c := 2) rfl s40 rfl (by decide) (by decide)) ?_
        refine L.val rfl (op_move rfl rfl) ?_
        refine L.nil ?_
        refine thenF_nor ?_
        refine Unr.step ?_
        refine W.seq ?_
        refine W.region (by rfl) ?_
        refine L.val (v := (.bool true)) rfl (op_lss (a := 2) (b := 5) rfl rfl rfl) ?_
        refine L.nil ?_
        refine thenF_nor ?_
        refine W.seq ?_
        refine W.cond (t := true) rfl (fun _ => ?_) (fun h => nomatch h)
        refine W.skip ?_
        refine thenF_nor ?_
        refine W.seq ?_
        refine W.block ?_
        refine W.seq ?_
        refine W.region (by rfl) ?_
        refine L.val rfl (op_move rfl rfl) ?_
        refine L.val rfl (op_assign rfl rfl) ?_
        refine L.nil ?_
        refine thenF_nor ?_
        refine W.seq ?_
        refine W.drawS [Sp.eq (.int .i64 2), Sp.eq (.pointer (some ⟨b5, 2, none⟩)), Sp.eq (.int .i64 a.kind), Sp.eq (.int .i64 2), Sp.eq (.pointer (some ⟨b6, 2, none⟩)), Sp.eq (.int .i64 b.kind), Sp.eq (.bool (!decide (a.kind = b.kind)))] mixed (by rfl) (Obls.cons ?_ (Obls.cons ?_ (Obls.cons ?_ (Obls.cons ?_ (Obls.cons ?_ (Obls.cons ?_ (Obls.cons ?_ Obls.nil))))))) ?_
        · intro f48 w48 hx48 ho48 hd48
          have d48_s7 : f48 7 = (.int .i64 2) := ho48 7 rfl
          exact D.val rfl (op_move rfl d48_s7)
        · intro f49 w49 hx49 ho49 hd49
          have d49_s5 : f49 5 = (.pointer (some ⟨b5, 0, none⟩)) := (ho49 5 rfl).trans s5
          have d49_0 : f49 43 = (.int .i64 2) := hd49 0 rfl
          have hB1 := hB1.ext hx49
          have hB2 := hB2.ext hx49
          have hB5 := hB5.ext hx49
          have hB6 := hB6.ext hx49
          exact D.val rfl (op_elemAddr (k := 2) rfl d49_s5 d49_0 Try.underlying70 si3 (by decide) rfl)
        · intro f50 w50 hx50 ho50 hd50
          have d50_1 : f50 44 = (.pointer (some ⟨b5, 2, none⟩)) := hd50 1 rfl
          have hB1 := hB1.ext hx50
          have hB2 := hB2.ext hx50
          have hB5 := hB5.ext hx50
          have hB6 := hB6.ext hx50
          exact D.val rfl (op_load1 rfl d50_1 one3 (hB5.cells.one (n := 2) rfl))
        · intro f51 w51 hx51 ho51 hd51
          have d51_s7 : f51 7 = (.int .i64 2) := ho51 7 rfl
          exact D.val rfl (op_move rfl d51_s7)
        · intro f52 w52 hx52 ho52 hd52
          have d52_s6 : f52 6 = (.pointer (some ⟨b6, 0, none⟩)) := (ho52 6 rfl).trans s6
          have d52_3 : f52 46 = (.int .i64 2) := hd52 3 rfl
          have hB1 := hB1.ext hx52
          have hB2 := hB2.ext hx52
          have hB5 := hB5.ext hx52
          have hB6 := hB6.ext hx52
          exact D.val rfl (op_elemAddr (k := 2) rfl d52_s6 d52_3 Try.underlying70 si3 (by decide) rfl)
        · intro f53 w53 hx53 ho53 hd53
          have d53_4 : f53 47 = (.pointer (some ⟨b6, 2, none⟩)) := hd53 4 rfl
          have hB1 := hB1.ext hx53
          have hB2 := hB2.ext hx53
          have hB5 := hB5.ext hx53
          have hB6 := hB6.ext hx53
          exact D.val rfl (op_load1 rfl d53_4 one3 (hB6.cells.one (n := 2) rfl))
        · intro f54 w54 hx54 ho54 hd54
          have d54_2 : f54 45 = (.int .i64 a.kind) := hd54 2 rfl
          have d54_5 : f54 48 = (.int .i64 b.kind) := hd54 5 rfl
          exact D.val rfl (op_neq rfl d54_2 d54_5)
        intro f55 w55 hx55 ho55 hr55
        have s0 : f55 0 = (Enc.val (a : Vt)) := (ho55 0 rfl).trans s0
        have s1 : f55 1 = (Enc.val (b : Vt)) := (ho55 1 rfl).trans s1
        have s2 : f55 2 = (.pointer (some ⟨b1, 0, none⟩)) := (ho55 2 rfl).trans s2
        have s3 : f55 3 = (.pointer (some ⟨b2, 0, none⟩)) := (ho55 3 rfl).trans s3
        have s4 : f55 4 = (.bool false) := (ho55 4 rfl).trans s4
        have s5 : f55 5 = (.pointer (some ⟨b5, 0, none⟩)) := (ho55 5 rfl).trans s5
        have s6 : f55 6 = (.pointer (some ⟨b6, 0, none⟩)) := (ho55 6 rfl).trans s6
        have s7 : f55 7 = (.int .i64 2) := ho55 7 rfl
        have s12 : f55 12 = (.bool (!decide (a.parent = b.parent))) := (ho55 12 rfl).trans s12
        have s40 : f55 40 = (.int .i64 2) := ho55 40 rfl
        have s41 : f55 41 = (.bool true) := ho55 41 rfl
        have s49 : f55 49 = (.bool (!decide (a.kind = b.kind))) := hr55 6 (by decide)
        have hE := hE.trans hx55
        have hB1 := hB1.ext hx55
        have hB2 := hB2.ext hx55
        have hB5 := hB5.ext hx55
        have hB6 := hB6.ext hx55
        refine thenF_nor ?_
        refine W.cond (t := !decide (a.kind = b.kind)) s49 (fun hc56 => ?_) (fun hc56 => ?_)
        · have hp56 := hc56
          simp only [Bool.and_eq_true, Bool.or_eq_true, Bool.and_eq_false_iff, Bool.or_eq_false_iff, Bool.not_eq_true', Bool.not_eq_false', decide_eq_true_eq, decide_eq_false_iff_not] at hp56
          refine W.seq ?_
          refine W.drawS [Sp.eq (.int .i64 2), Sp.eq (.pointer (some ⟨b5, 2, none⟩)), Sp.eq (.int .i64 a.kind), Sp.eq (.int .i64 2), Sp.eq (.pointer (some ⟨b6, 2, none⟩)), Sp.eq (.int .i64 b.kind), Sp.eq (.bool (decide (a.kind < b.kind))), Sp.eq (.bool (decide (a.kind < b.kind)))] mixed (by rfl) (Obls.cons ?_ (Obls.cons ?_ (Obls.cons ?_ (Obls.cons ?_ (Obls.cons ?_ (Obls.cons ?_ (Obls.cons ?_ (Obls.cons ?_ Obls.nil)))))))) ?_
          · intro f58 w58 hx58 ho58 hd58
            have d58_s7 : f58 7 = (.int .i64 2) := (ho58 7 rfl).trans s7
            exact D.val rfl (op_move rfl d58_s7)
          · intro f59 w59 hx59 ho59 hd59
            have d59_s5 : f59 5 = (.pointer (some ⟨b5, 0, none⟩)) := (ho59 5 rfl).trans s5
            have d59_0 : f59 50 = (.int .i64 2) := hd59 0 rfl
            have hB1 := hB1.ext hx59
            have hB2 := hB2.ext hx59
            have hB5 := hB5.ext hx59
            have hB6 := hB6.ext hx59
            exact D.val rfl (op_elemAddr (k := 2) rfl d59_s5 d59_0 Try.underlying70 si3 (by decide) rfl)
          · intro f60 w60 hx60 ho60 hd60
            have d60_1 : f60 51 = (.pointer (some ⟨b5, 2, none⟩)) := hd60 1 rfl
            have hB1 := hB1.ext hx60
            have hB2 := hB2.ext hx60
            have hB5 := hB5.ext hx60
            have hB6 := hB6.ext hx60
            exact D.val rfl (op_load1 rfl d60_1 one3 (hB5.cells.one (n := 2) rfl))
          · intro f61 w61 hx61 ho61 hd61
            have d61_s7 : f61 7 = (.int .i64 2) := (ho61 7 rfl).trans s7
            exact D.val rfl (op_move rfl d61_s7)
          · intro f62 w62 hx62 ho62 hd62
            have d62_s6 : f62 6 = (.pointer (some ⟨b6, 0, none⟩)) := (ho62 6 rfl).trans s6
            have d62_3 : f62 53 = (.int .i64 2) := hd62 3 rfl
            have hB1 := hB1.ext hx62
            have hB2 := hB2.ext hx62
            have hB5 := hB5.ext hx62
            have hB6 := hB6.ext hx62
            exact D.val rfl (op_elemAddr (k := 2) rfl d62_s6 d62_3 Try.underlying70 si3 (by decide) rfl)
          · intro f63 w63 hx63 ho63 hd63
            have d63_4 : f63 54 = (.pointer (some ⟨b6, 2, none⟩)) := hd63 4 rfl
            have hB1 := hB1.ext hx63
            have hB2 := hB2.ext hx63
            have hB5 := hB5.ext hx63
            have hB6 := hB6.ext hx63
            exact D.val rfl (op_load1 rfl d63_4 one3 (hB6.cells.one (n := 2) rfl))
          · intro f64 w64 hx64 ho64 hd64
            have d64_2 : f64 52 = (.int .i64 a.kind) := hd64 2 rfl
            have d64_5 : f64 55 = (.int .i64 b.kind) := hd64 5 rfl
            exact D.val rfl (op_lss rfl d64_2 d64_5)
          · intro f65 w65 hx65 ho65 hd65
            have d65_6 : f65 56 = (.bool (decide (a.kind < b.kind))) := hd65 6 rfl
            exact D.val rfl (op_assign rfl d65_6)
          intro f66 w66 hx66 ho66 hr66
          have s0 : f66 0 = (Enc.val (a : Vt)) := (ho66 0 rfl).trans s0
          have s1 : f66 1 = (Enc.val (b : Vt)) := (ho66 1 rfl).trans s1
          have s2 : f66 2 = (.pointer (some ⟨b1, 0, none⟩)) := (ho66 2 rfl).trans s2
          have s3 : f66 3 = (.pointer (some ⟨b2, 0, none⟩)) := (ho66 3 rfl).trans s3
          have s5 : f66 5 = (.pointer (some ⟨b5, 0, none⟩)) := (ho66 5 rfl).trans s5
          have s6 : f66 6 = (.pointer (some ⟨b6, 0, none⟩)) := (ho66 6 rfl).trans s6
          have s7 : f66 7 = (.int .i64 2) := (ho66 7 rfl).trans s7
          have s12 : f66 12 = (.bool (!decide (a.parent = b.parent))) := (ho66 12 rfl).trans s12
          have s40 : f66 40 = (.int .i64 2) := (ho66 40 rfl).trans s40
          have s41 : f66 41 = (.bool true) := (ho66 41 rfl).trans s41
          have s49 : f66 49 = (.bool (!decide (a.kind = b.kind))) := (ho66 49 rfl).trans s49
          have s4 : f66 4 = (.bool (decide (a.kind < b.kind))) := hr66 7 (by decide)
          have hE := hE.trans hx66
          have hB1 := hB1.ext hx66
          have hB2 := hB2.ext hx66
          have hB5 := hB5.ext hx66
          have hB6 := hB6.ext hx66
          refine thenF_nor ?_
          refine W.ret ?_
          refine blockF_ret ?_
          refine thenF_ret ?_
          refine thenF_ret ?_
          refine blockF_ret ?_
          refine thenF_ret ?_
          exact end_ret1 (v := (.bool (decide (a.kind < b.kind)))) rfl s4 ⟨by simp only [voteLess_f, hc3, hc16, hc36, hc56, cond_true, cond_false], hE⟩
        · have hp56 := hc56
          simp only [Bool.and_eq_true, Bool.or_eq_true, Bool.and_eq_false_iff, Bool.or_eq_false_iff, Bool.not_eq_true', Bool.not_eq_false', decide_eq_true_eq, decide_eq_false_iff_not] at hp56
          refine W.skip ?_
          refine blockF_nor ?_
          refine thenF_nor ?_
          refine W.region (by rfl) ?_
          refine L.val rfl (op_add (c := 3) rfl s40 rfl (by decide) (by decide)) ?_
          refine L.val rfl (op_move rfl rfl) ?_
          refine L.nil ?_
          refine thenF_nor ?_
          refine Unr.step ?_
          refine W.seq ?_
          refine W.region (by rfl) ?_
          refine L.val (v := (.bool true)) rfl (op_lss (a := 3) (b := 5) rfl rfl rfl) ?_
          refine L.nil ?_
          refine thenF_nor ?_
          refine W.seq ?_
          refine W.cond (t := true) rfl (fun _ => ?_) (fun h => nomatch h)
          refine W.skip ?_
          refine thenF_nor ?_
          refine W.seq ?_
          refine W.block ?_
          refine W.seq ?_
          refine W.region (by rfl) ?_
          refine L.val rfl (op_move rfl rfl) ?_
          refine L.val rfl (op_assign rfl rfl) ?_
          refine L.nil ?_
          refine thenF_nor ?_
          refine W.seq ?_
          refine W.drawS [Sp.eq (.int .i64 3), Sp.eq (.pointer (some ⟨b5, 3, none⟩)), Sp.eq (.int .i64 a.signer), Sp.eq (.int .i64 3), Sp.eq (.pointer (some ⟨b6, 3, none⟩)), Sp.eq (.int .i64 b.signer), Sp.eq (.bool (!decide (a.signer = b.signer)))] mixed (by rfl) (Obls.cons ?_ (Obls.cons ?_ (Obls.cons ?_ (Obls.cons ?_ (Obls.cons ?_ (Obls.cons ?_ (Obls.cons ?_ Obls.nil))))))) ?_
          · intro f68 w68 hx68 ho68 hd68
            have d68_s7 : f68 7 = (.int .i64 3) := ho68 7 rfl
            exact D.val rfl (op_move rfl d68_s7)
          · intro f69 w69 hx69 ho69 hd69
            have d69_s5 : f69 5 = (.pointer (some ⟨b5, 0, none⟩)) := (ho69 5 rfl).trans s5
            have d69_0 : f69 43 = (.int .i64 3) := hd69 0 rfl
            have hB1 := hB1.ext hx69
            have hB2 := hB2.ext hx69
            have hB5 := hB5.ext hx69
            have hB6 := hB6.ext hx69
            exact D.val rfl (op_elemAddr (k := 3) rfl d69_s5 d69_0 Try.underlying70 si3 (by decide) rfl)
          · intro f70 w70 hx70 ho70 hd70
            have d70_1 : f70 44 = (.pointer (some ⟨b5, 3, none⟩)) := hd70 1 rfl
            have hB1 := hB1.ext hx70
            have hB2 := hB2.ext hx70
            have hB5 := hB5.ext hx70
            have hB6 := hB6.ext hx70
            exact D.val rfl (op_load1 rfl d70_1 one3 (hB5.cells.one (n := 3) rfl))
          · intro f71 w71 hx71 ho71 hd71
            have d71_s7 : f71 7 = (.int .i64 3) := ho71 7 rfl
            exact D.val rfl (op_move rfl d71_s7)
          · intro f72 w72 hx72 ho72 hd72
            have d72_s6 : f72 6 = (.pointer (some ⟨b6, 0, none⟩)) := (ho72 6 rfl).trans s6
            have d72_3 : f72 46 = (.int .i64 3) := hd72 3 rfl
            have hB1 := hB1.ext hx72
            have hB2 := hB2.ext hx72
            have hB5 := hB5.ext hx72
            have hB6 := hB6.ext hx72
            exact D.val rfl (op_elemAddr (k := 3) rfl d72_s6 d72_3 Try.underlying70 si3 (by decide) rfl)
          · intro f73 w73 hx73 ho73 hd73
            have d73_4 : f73 47 = (.pointer (some ⟨b6, 3, none⟩)) := hd73 4 rfl
            have hB1 := hB1.ext hx73
            have hB2 := hB2.ext hx73
            have hB5 := hB5.ext hx73
            have hB6 := hB6.ext hx73
            exact D.val rfl (op_load1 rfl d73_4 one3 (hB6.cells.one (n := 3) rfl))
          · intro f74 w74 hx74 ho74 hd74
            have d74_2 : f74 45 = (.int .i64 a.signer) := hd74 2 rfl
            have d74_5 : f74 48 = (.int .i64 b.signer) := hd74 5 rfl
            exact D.val rfl (op_neq rfl d74_2 d74_5)
          intro f75 w75 hx75 ho75 hr75
          have s0 : f75 0 = (Enc.val (a : Vt)) := (ho75 0 rfl).trans s0
          have s1 : f75 1 = (Enc.val (b : Vt)) := (ho75 1 rfl).trans s1
          have s2 : f75 2 = (.pointer (some ⟨b1, 0, none⟩)) := (ho75 2 rfl).trans s2
          have s3 : f75 3 = (.pointer (some ⟨b2, 0, none⟩)) := (ho75 3 rfl).trans s3
          have s4 : f75 4 = (.bool false) := (ho75 4 rfl).trans s4
          have s5 : f75 5 = (.pointer (some ⟨b5, 0, none⟩)) := (ho75 5 rfl).trans s5
          have s6 : f75 6 = (.pointer (some ⟨b6, 0, none⟩)) := (ho75 6 rfl).trans s6
          have s7 : f75 7 = (.int .i64 3) := ho75 7 rfl
          have s12 : f75 12 = (.bool (!decide (a.parent = b.parent))) := (ho75 12 rfl).trans s12
          have s40 : f75 40 = (.int .i64 3) := ho75 40 rfl
          have s41 : f75 41 = (.bool true) := ho75 41 rfl
          have s49 : f75 49 = (.bool (!decide (a.signer = b.signer))) := hr75 6 (by decide)
          have hE := hE.trans hx75
          have hB1 := hB1.ext hx75
          have hB2 := hB2.ext hx75
          have hB5 := hB5.ext hx75
          have hB6 := hB6.ext hx75
          refine thenF_nor ?_
          refine W.cond (t := !decide (a.signer = b.signer)) s49 (fun hc76 => ?_) (fun hc76 => ?_)
          · have hp76 := hc76
            simp only [Bool.and_eq_true, Bool.or_eq_true, Bool.and_eq_false_iff, Bool.or_eq_false_iff, Bool.not_eq_true', Bool.not_eq_false', decide_eq_true_eq, decide_eq_false_iff_not] at hp76
            refine W.seq ?_
            refine W.drawS [Sp.eq (.int .i64 3), Sp.eq (.pointer (some ⟨b5, 3, none⟩)), Sp.eq (.int .i64 a.signer), Sp.eq (.int .i64 3), Sp.eq (.pointer (some ⟨b6, 3, none⟩)), Sp.eq (.int .i64 b.signer), Sp.eq (.bool (decide (a.signer < b.signer))), Sp.eq (.bool (decide (a.signer < b.signer)))] mixed (by rfl) (Obls.cons ?_ (Obls.cons ?_ (Obls.cons ?_ (Obls.cons ?_ (Obls.cons ?_ (Obls.cons ?_ (Obls.cons ?_ (Obls.cons ?_ Obls.nil)))))))) ?_
            · intro f78 w78 hx78 ho78 hd78
              have d78_s7 : f78 7 = (.int .i64 3) := (ho78 7 rfl).trans s7
              exact D.val rfl (op_move rfl d78_s7)
            · intro f79 w79 hx79 ho79 hd79
              have d79_s5 : f79 5 = (.pointer (some ⟨b5, 0, none⟩)) := (ho79 5 rfl).trans s5
              have d79_0 : f79 50 = (.int .i64 3) := hd79 0 rfl
              have hB1 := hB1.ext hx79
              have hB2 := hB2.ext hx79
              have hB5 := hB5.ext hx79
              have hB6 := hB6.ext hx79
              exact D.val rfl (op_elemAddr (k := 3) rfl d79_s5 d79_0 Try.underlying70 si3 (by decide) rfl)
            · intro f80 w80 hx80 ho80 hd80
              have d80_1 : f80 51 = (.pointer (some ⟨b5, 3, none⟩)) := hd80 1 rfl
              have hB1 := hB1.ext hx80
              have hB2 := hB2.ext hx80
              have hB5 := hB5.ext hx80
              have hB6 := hB6.ext hx80
              exact D.val rfl (op_load1 rfl d80_1 one3 (hB5.cells.one (n := 3) rfl))
            · intro f81 w81 hx81 ho81 hd81
              have d81_s7 : f81 7 = (.int .i64 3) := (ho81 7 rfl).trans s7
              exact D.val rfl (op_move rfl d81_s7)
            · intro f82 w82 hx82 ho82 hd82
              have d82_s6 : f82 6 = (.pointer (some ⟨b6, 0, none⟩)) := (ho82 6 rfl).trans s6
              have d82_3 : f82 53 = (.int .i64 3) := hd82 3 rfl
              have hB1 := hB1.ext hx82
              have hB2 := hB2.ext hx82
              have hB5 := hB5.ext hx82
              have hB6 := hB6.ext hx82
              exact D.val rfl (op_elemAddr (k := 3) rfl d82_s6 d82_3 Try.underlying70 si3 (by decide) rfl)
            · intro f83 w83 hx83 ho83 hd83
              have d83_4 : f83 54 = (.pointer (some ⟨b6, 3, none⟩)) := hd83 4 rfl
              have hB1 := hB1.ext hx83
              have hB2 := hB2.ext hx83
              have hB5 := hB5.ext hx83
              have hB6 := hB6.ext hx83
              exact D.val rfl (op_load1 rfl d83_4 one3 (hB6.cells.one (n := 3) rfl))
            · intro f84 w84 hx84 ho84 hd84
              have d84_2 : f84 52 = (.int .i64 a.signer) := hd84 2 rfl
              have d84_5 : f84 55 = (.int .i64 b.signer) := hd84 5 rfl
              exact D.val rfl (op_lss rfl d84_2 d84_5)
            · intro f85 w85 hx85 ho85 hd85
              have d85_6 : f85 56 = (.bool (decide (a.signer < b.signer))) := hd85 6 rfl
              exact D.val rfl (op_assign rfl d85_6)
            intro f86 w86 hx86 ho86 hr86
            have s0 : f86 0 = (Enc.val (a : Vt)) := (ho86 0 rfl).trans s0
            have s1 : f86 1 = (Enc.val (b : Vt)) := (ho86 1 rfl).trans s1
            have s2 : f86 2 = (.pointer (some ⟨b1, 0, none⟩)) := (ho86 2 rfl).trans s2
            have s3 : f86 3 = (.pointer (some ⟨b2, 0, none⟩)) := (ho86 3 rfl).trans s3
            have s5 : f86 5 = (.pointer (some ⟨b5, 0, none⟩)) := (ho86 5 rfl).trans s5
            have s6 : f86 6 = (.pointer (some ⟨b6, 0, none⟩)) := (ho86 6 rfl).trans s6
            have s7 : f86 7 = (.int .i64 3) := (ho86 7 rfl).trans s7
            have s12 : f86 12 = (.bool (!decide (a.parent = b.parent))) := (ho86 12 rfl).trans s12
            have s40 : f86 40 = (.int .i64 3) := (ho86 40 rfl).trans s40
            have s41 : f86 41 = (.bool true) := (ho86 41 rfl).trans s41
            have s49 : f86 49 = (.bool (!decide (a.signer = b.signer))) := (ho86 49 rfl).trans s49
            have s4 : f86 4 = (.bool (decide (a.signer < b.signer))) := hr86 7 (by decide)
            have hE := hE.trans hx86
            have hB1 := hB1.ext hx86
            have hB2 := hB2.ext hx86
            have hB5 := hB5.ext hx86
            have hB6 := hB6.ext hx86
            refine thenF_nor ?_
            refine W.ret ?_
            refine blockF_ret ?_
            refine thenF_ret ?_
            refine thenF_ret ?_
            refine blockF_ret ?_
            refine thenF_ret ?_
            exact end_ret1 (v := (.bool (decide (a.signer < b.signer)))) rfl s4 ⟨by simp only [voteLess_f, hc3, hc16, hc36, hc56, hc76, cond_true, cond_false], hE⟩
          · have hp76 := hc76
            simp only [Bool.and_eq_true, Bool.or_eq_true, Bool.and_eq_false_iff, Bool.or_eq_false_iff, Bool.not_eq_true', Bool.not_eq_false', decide_eq_true_eq, decide_eq_false_iff_not] at hp76
            refine W.skip ?_
            refine blockF_nor ?_
            refine thenF_nor ?_
            refine W.region (by rfl) ?_
            refine L.val rfl (op_add (c := 4) rfl s40 rfl (by decide) (by decide)) ?_
            refine L.val rfl (op_move rfl rfl) ?_
            refine L.nil ?_
            refine thenF_nor ?_
            refine Unr.step ?_
            refine W.seq ?_
            refine W.region (by rfl) ?_
            refine L.val (v := (.bool true)) rfl (op_lss (a := 4) (b := 5) rfl rfl rfl) ?_
            refine L.nil ?_
            refine thenF_nor ?_
            refine W.seq ?_
            refine W.cond (t := true) rfl (fun _ => ?_) (fun h => nomatch h)
            refine W.skip ?_
            refine thenF_nor ?_
            refine W.seq ?_
            refine W.block ?_
            refine W.seq ?_
            refine W.region (by rfl) ?_
            refine L.val rfl (op_move rfl rfl) ?_
            refine L.val rfl (op_assign rfl rfl) ?_
            refine L.nil ?_
            refine thenF_nor ?_
            refine W.seq ?_
            refine W.drawS [Sp.eq (.int .i64 4), Sp.eq (.pointer (some ⟨b5, 4, none⟩)), Sp.eq (.int .i64 a.choice), Sp.eq (.int .i64 4), Sp.eq (.pointer (some ⟨b6, 4, none⟩)), Sp.eq (.int .i64 b.choice), Sp.eq (.bool (!decide (a.choice = b.choice)))] mixed (by rfl) (Obls.cons ?_ (Obls.cons ?_ (Obls.cons ?_ (Obls.cons ?_ (Obls.cons ?_ (Obls.cons ?_ (Obls.cons ?_ Obls.nil))))))) ?_
            · intro f88 w88 hx88 ho88 hd88
              have d88_s7 : f88 7 = (.int .i64 4) := ho88 7 rfl
              exact D.val rfl (op_move rfl d88_s7)
            · intro f89 w89 hx89 ho89 hd89
              have d89_s5 : f89 5 = (.pointer (some ⟨b5, 0, none⟩)) := (ho89 5 rfl).trans s5
              have d89_0 : f89 43 = (.int .i64 4) := hd89 0 rfl
              have hB1 := hB1.ext hx89
              have hB2 := hB2.ext hx89
              have hB5 := hB5.ext hx89
              have hB6 := hB6.ext hx89
              exact D.val rfl (op_elemAddr (k := 4) rfl d89_s5 d89_0 Try.underlying70 si3 (by decide) rfl)
            · intro f90 w90 hx90 ho90 hd90
              have d90_1 : f90 44 = (.pointer (some ⟨b5, 4, none⟩)) := hd90 1 rfl
              have hB1 := hB1.ext hx90
              have hB2 := hB2.ext hx90
              have hB5 := hB5.ext hx90
              have hB6 := hB6.ext hx90
              exact D.val rfl (op_load1 rfl d90_1 one3 (hB5.cells.one (n := 4) rfl))
            · intro f91 w91 hx91 ho91 hd91
              have d91_s7 : f91 7 = (.int .i64 4) := ho91 7 rfl
              exact D.val rfl (op_move rfl d91_s7)
            · intro f92 w92 hx92 ho92 hd92
              have d92_s6 : f92 6 = (.pointer (some ⟨b6, 0, none⟩)) := (ho92 6 rfl).trans s6
              have d92_3 : f92 46 = (.int .i64 4) := hd92 3 rfl
              have hB1 := hB1.ext hx92
              have hB2 := hB2.ext hx92
              have hB5 := hB5.ext hx92
              have hB6 := hB6.ext hx92
              exact D.val rfl (op_elemAddr (k := 4) rfl d92_s6 d92_3 Try.underlying70 si3 (by decide) rfl)
            · intro f93 w93 hx93 ho93 hd93
              have d93_4 : f93 47 = (.pointer (some ⟨b6, 4, none⟩)) := hd93 4 rfl
              have hB1 := hB1.ext hx93
              have hB2 := hB2.ext hx93
              have hB5 := hB5.ext hx93
              have hB6 := hB6.ext hx93
              exact D.val rfl (op_load1 rfl d93_4 one3 (hB6.cells.one (n := 4) rfl))
            · intro f94 w94 hx94 ho94 hd94
              have d94_2 : f94 45 = (.int .i64 a.choice) := hd94 2 rfl
              have d94_5 : f94 48 = (.int .i64 b.choice) := hd94 5 rfl
              exact D.val rfl (op_neq rfl d94_2 d94_5)
            intro f95 w95 hx95 ho95 hr95
            have s0 : f95 0 = (Enc.val (a : Vt)) := (ho95 0 rfl).trans s0
            have s1 : f95 1 = (Enc.val (b : Vt)) := (ho95 1 rfl).trans s1
            have s2 : f95 2 = (.pointer (some ⟨b1, 0, none⟩)) := (ho95 2 rfl).trans s2
            have s3 : f95 3 = (.pointer (some ⟨b2, 0, none⟩)) := (ho95 3 rfl).trans s3
            have s4 : f95 4 = (.bool false) := (ho95 4 rfl).trans s4
            have s5 : f95 5 = (.pointer (some ⟨b5, 0, none⟩)) := (ho95 5 rfl).trans s5
            have s6 : f95 6 = (.pointer (some ⟨b6, 0, none⟩)) := (ho95 6 rfl).trans s6
            have s7 : f95 7 = (.int .i64 4) := ho95 7 rfl
            have s12 : f95 12 = (.bool (!decide (a.parent = b.parent))) := (ho95 12 rfl).trans s12
            have s40 : f95 40 = (.int .i64 4) := ho95 40 rfl
            have s41 : f95 41 = (.bool true) := ho95 41 rfl
            have s49 : f95 49 = (.bool (!decide (a.choice = b.choice))) := hr95 6 (by decide)
            have hE := hE.trans hx95
            have hB1 := hB1.ext hx95
            have hB2 := hB2.ext hx95
            have hB5 := hB5.ext hx95
            have hB6 := hB6.ext hx95
            refine thenF_nor ?_
            refine W.cond (t := !decide (a.choice = b.choice)) s49 (fun hc96 => ?_) (fun hc96 => ?_)
            · have hp96 := hc96
              simp only [Bool.and_eq_true, Bool.or_eq_true, Bool.and_eq_false_iff, Bool.or_eq_false_iff, Bool.not_eq_true', Bool.not_eq_false', decide_eq_true_eq, decide_eq_false_iff_not] at hp96
              refine W.seq ?_
              refine W.drawS [Sp.eq (.int .i64 4), Sp.eq (.pointer (some ⟨b5, 4, none⟩)), Sp.eq (.int .i64 a.choice), Sp.eq (.int .i64 4), Sp.eq (.pointer (some ⟨b6, 4, none⟩)), Sp.eq (.int .i64 b.choice), Sp.eq (.bool (decide (a.choice < b.choice))), Sp.eq (.bool (decide (a.choice < b.choice)))] mixed (by rfl) (Obls.cons ?_ (Obls.cons ?_ (Obls.cons ?_ (Obls.cons ?_ (Obls.cons ?_ (Obls.cons ?_ (Obls.cons ?_ (Obls.cons ?_ Obls.nil)))))))) ?_
              · intro f98 w98 hx98 ho98 hd98
                have d98_s7 : f98 7 = (.int .i64 4) := (ho98 7 rfl).trans s7
                exact D.val rfl (op_move rfl d98_s7)
              · intro f99 w99 hx99 ho99 hd99
                have d99_s5 : f99 5 = (.pointer (some ⟨b5, 0, none⟩)) := (ho99 5 rfl).trans s5
                have d99_0 : f99 50 = (.int .i64 4) := hd99 0 rfl
                have hB1 := hB1.ext hx99
                have hB2 := hB2.ext hx99
                have hB5 := hB5.ext hx99
                have hB6 := hB6.ext hx99
                exact D.val rfl (op_elemAddr (k := 4) rfl d99_s5 d99_0 Try.underlying70 si3 (by decide) rfl)
              · intro f100 w100 hx100 ho100 hd100
                have d100_1 : f100 51 = (.pointer (some ⟨b5, 4, none⟩)) := hd100 1 rfl
                have hB1 := hB1.ext hx100
                have hB2 := hB2.ext hx100
                have hB5 := hB5.ext hx100
                have hB6 := hB6.ext hx100
                exact D.val rfl (op_load1 rfl d100_1 one3 (hB5.cells.one (n := 4) rfl))
              · intro f101 w101 hx101 ho101 hd101
                have d101_s7 : f101 7 = (.int .i64 4) := (ho101 7 rfl).trans s7
                exact D.val rfl (op_move rfl d101_s7)
              · intro f102 w102 hx102 ho102 hd102
                have d102_s6 : f102 6 = (.pointer (some ⟨b6, 0, none⟩)) := (ho102 6 rfl).trans s6
                have d102_3 : f102 53 = (.int .i64 4) := hd102 3 rfl
                have hB1 := hB1.ext hx102
                have hB2 := hB2.ext hx102
                have hB5 := hB5.ext hx102
                have hB6 := hB6.ext hx102
                exact D.val rfl (op_elemAddr (k := 4) rfl d102_s6 d102_3 Try.underlying70 si3 (by decide) rfl)
              · intro f103 w103 hx103 ho103 hd103
                have d103_4 : f103 54 = (.pointer (some ⟨b6, 4, none⟩)) := hd103 4 rfl
                have hB1 := hB1.ext hx103
                have hB2 := hB2.ext hx103
                have hB5 := hB5.ext hx103
                have hB6 := hB6.ext hx103
                exact D.val rfl (op_load1 rfl d103_4 one3 (hB6.cells.one (n := 4) rfl))
              · intro f104 w104 hx104 ho104 hd104
                have d104_2 : f104 52 = (.int .i64 a.choice) := hd104 2 rfl
                have d104_5 : f104 55 = (.int .i64 b.choice) := hd104 5 rfl
                exact D.val rfl (op_lss rfl d104_2 d104_5)
              · intro f105 w105 hx105 ho105 hd105
                have d105_6 : f105 56 = (.bool (decide (a.choice < b.choice))) := hd105 6 rfl
                exact D.val rfl (op_assign rfl d105_6)
              intro f106 w106 hx106 ho106 hr106
              have s0 : f106 0 = (Enc.val (a : Vt)) := (ho106 0 rfl).trans s0
              have s1 : f106 1 = (Enc.val (b : Vt)) := (ho106 1 rfl).trans s1
              have s2 : f106 2 = (.pointer (some ⟨b1, 0, none⟩)) := (ho106 2 rfl).trans s2
              have s3 : f106 3 = (.pointer (some ⟨b2, 0, none⟩)) := (ho106 3 rfl).trans s3
              have s5 : f106 5 = (.pointer (some ⟨b5, 0, none⟩)) := (ho106 5 rfl).trans s5
              have s6 : f106 6 = (.pointer (some ⟨b6, 0, none⟩)) := (ho106 6 rfl).trans s6
              have s7 : f106 7 = (.int .i64 4) := (ho106 7 rfl).trans s7
              have s12 : f106 12 = (.bool (!decide (a.parent = b.parent))) := (ho106 12 rfl).trans s12
              have s40 : f106 40 = (.int .i64 4) := (ho106 40 rfl).trans s40
              have s41 : f106 41 = (.bool true) := (ho106 41 rfl).trans s41
              have s49 : f106 49 = (.bool (!decide (a.choice = b.choice))) := (ho106 49 rfl).trans s49
              have s4 : f106 4 = (.bool (decide (a.choice < b.choice))) := hr106 7 (by decide)
              have hE := hE.trans hx106
              have hB1 := hB1.ext hx106
              have hB2 := hB2.ext hx106
              have hB5 := hB5.ext hx106
              have hB6 := hB6.ext hx106
              refine thenF_nor ?_
              refine W.ret ?_
              refine blockF_ret ?_
              refine thenF_ret ?_
              refine thenF_ret ?_
              refine blockF_ret ?_
              refine thenF_ret ?_
              exact end_ret1 (v := (.bool (decide (a.choice < b.choice)))) rfl s4 ⟨by simp only [voteLess_f, hc3, hc16, hc36, hc56, hc76, hc96, cond_true, cond_false], hE⟩
            · have hp96 := hc96
              simp only [Bool.and_eq_true, Bool.or_eq_true, Bool.and_eq_false_iff, Bool.or_eq_false_iff, Bool.not_eq_true', Bool.not_eq_false', decide_eq_true_eq, decide_eq_false_iff_not] at hp96
              refine W.skip ?_
              refine blockF_nor ?_
              refine thenF_nor ?_
              refine W.region (by rfl) ?_
              refine L.val rfl (op_add (c := 5) rfl s40 rfl (by decide) (by decide)) ?_
              refine L.val rfl (op_move rfl rfl) ?_
              refine L.nil ?_
              refine thenF_nor ?_
              refine Unr.step ?_
              refine W.seq ?_
              refine W.region (by rfl) ?_
              refine L.val (v := (.bool false)) rfl (op_lss (a := 5) (b := 5) rfl rfl rfl) ?_
              refine L.nil ?_
              refine thenF_nor ?_
              refine W.seq ?_
              refine W.cond (t := false) rfl (fun h => nomatch h) (fun _ => ?_)
              refine W.exit ?_
              refine thenF_exit ?_
              refine thenF_exit ?_
              refine blockF_hit ?_
              refine thenF_nor ?_
              refine W.seq ?_
              refine W.seq ?_
              refine W.region (by rfl) ?_
              refine L.val rfl (op_field rfl s2 fo28_7 rfl) ?_
              refine L.val rfl (op_load (v := (a.value : Nm)) rfl rfl ty24 (sub_nm 14 hB1.cells rfl)) ?_
              refine L.val rfl (op_field rfl s3 fo28_7 rfl) ?_
              refine L.val rfl (op_load (v := (b.value : Nm)) rfl rfl ty24 (sub_nm 14 hB2.cells rfl)) ?_
              refine L.val rfl (op_neqe (a := (a.value : Nm)) (b := (b.value : Nm)) rfl rfl rfl eq24 (fun _ => ⟨_, rfl⟩) Try.eqGuardType24) ?_
              refine L.nil ?_
              refine thenF_nor ?_
              refine W.cond (t := !decide (a.value = b.value)) rfl (fun hc107 => ?_) (fun hc107 => ?_)
              · have hp107 := hc107
                simp only [Bool.and_eq_true, Bool.or_eq_true, Bool.and_eq_false_iff, Bool.or_eq_false_iff, Bool.not_eq_true', Bool.not_eq_false', decide_eq_true_eq, decide_eq_false_iff_not] at hp107
                refine W.seq ?_
                refine W.region (by rfl) ?_
                refine L.val rfl (op_field rfl s2 fo28_7 rfl) ?_
                refine L.val rfl (op_load (v := (a.value : Nm)) rfl rfl ty24 (sub_nm 14 hB1.cells rfl)) ?_
                refine L.val rfl (op_field rfl s3 fo28_7 rfl) ?_
                refine L.val rfl (op_load (v := (b.value : Nm)) rfl rfl ty24 (sub_nm 14 hB2.cells rfl)) ?_
                refine L.call (v := (.bool (hashLess_f a.value b.value))) rfl (OpS.call (op_call rfl (argsC rfl (argsC rfl argsN)) Try.func34 rfl rfl) hashLess_ok) ?_
                intro w108 hx108
                have hE := hE.trans hx108
                have hB1 := hB1.ext hx108
                have hB2 := hB2.ext hx108
                have hB5 := hB5.ext hx108
                have hB6 := hB6.ext hx108
                refine L.val rfl (op_assign rfl rfl) ?_
                refine L.nil ?_
                refine thenF_nor ?_
                refine W.ret ?_
                refine thenF_ret ?_
                exact end_ret1 (v := (.bool (hashLess_f a.value b.value))) rfl rfl ⟨by simp only [voteLess_f, hc3, hc16, hc36, hc56, hc76, hc96, hc107, cond_true, cond_false], hE⟩
              · have hp107 := hc107
                simp only [Bool.and_eq_true, Bool.or_eq_true, Bool.and_eq_false_iff, Bool.or_eq_false_iff, Bool.not_eq_true', Bool.not_eq_false', decide_eq_true_eq, decide_eq_false_iff_not] at hp107
                refine W.skip ?_
                refine thenF_nor ?_
                refine W.seq ?_
                refine W.region (by rfl) ?_
                refine L.val rfl (op_field rfl s2 fo28_5 rfl) ?_
                refine L.val rfl (op_load1 rfl rfl one22 (hB1.cells.one (n := 5) rfl)) ?_
                refine L.val rfl (op_field rfl s3 fo28_5 rfl) ?_
                refine L.val rfl (op_load1 rfl rfl one22 (hB2.cells.one (n := 5) rfl)) ?_
                refine L.val rfl (op_lss rfl rfl rfl) ?_
                refine L.val rfl (op_assign rfl rfl) ?_
                refine L.nil ?_
                refine thenF_nor ?_
                refine W.ret ?_
                exact end_ret1 (v := (.bool (decide (a.support < b.support)))) rfl rfl ⟨by simp only [voteLess_f, hc3, hc16, hc36, hc56, hc76, hc96, hc107, cond_false], hE⟩

end Go.Proofs.Ytdknjfmjddlphaa

/-
  Contracts of functions of the program, each with its walk in the logic of frames. Printed by a program of this session (wip/gen) from the translation.
-/
set_option linter.unusedSimpArgs false
set_option linter.unusedVariables false
namespace Go.Proofs.Ytdknjfmjddlphaa
open Go Go.Fk

def allowed1_f (x : Vt) (v : Vt) : Bool := (decide (x.kind = 1)) && (same_f v x)
set_option maxRecDepth 100000 in
theorem allowed1_ok {x : Vt} {p_v : Addr} {v : Vt}  {w : World} (hp_v : Cells w p_v (Enc.cells v)) : Gives Try.prog 56 #[(Enc.val (x : Vt)), (.pointer (some p_v))] w fun u w' => u = (.bool (allowed1_f x v)) ∧ Ext w w' := by
  have hE : Ext w w := Ext.refl w
  refine gives_of_W Try.func56 rfl Try.ntmps56 rfl ?_
  refine W.seq ?_
  refine W.region (by rfl) ?_
  refine L.step rfl (op_box (cs := (Enc.cells (x : Vt))) rfl rfl rfl) ?_
  rintro _ w1 ⟨b1, rfl, hb1, hB1, hx1⟩
  have hE := hE.trans hx1
  have hp_v := hp_v.ext hx1
  refine L.val (v := (.bool false)) rfl (op_assign rfl rfl) ?_
  refine L.nil ?_
  refine thenF_nor ?_
  refine W.seq ?_
  refine W.region (by rfl) ?_
  refine L.val rfl (op_field rfl rfl fo28_0 rfl) ?_
  refine L.val rfl (op_load1 rfl rfl one3 (hB1.cells.one (n := 0) rfl)) ?_
  refine L.val rfl (op_eql rfl rfl rfl) ?_
  refine L.val rfl (op_move rfl rfl) ?_
  refine L.guardv (v := (Enc.val (v : Vt))) (wanted_yes rfl rfl rfl) (fun hg => (op_load (v := (v : Vt)) rfl rfl ty28 hp_v)) ?_
  refine L.guardv (v := (Enc.val (x : Vt))) (wanted_yes rfl rfl rfl) (fun hg => (op_load (v := (x : Vt)) rfl rfl ty28 hB1.cells)) ?_
  refine L.guardc (v := (.bool (same_f v x))) (wanted_yes rfl rfl rfl) (fun hg => (OpS.call (op_call rfl (argsC ((show _ = vif _ (Enc.val (v : Vt)) from rfl).trans (vif_t hg).symm) (argsC ((show _ = vif _ (Enc.val (x : Vt)) from rfl).trans (vif_t hg).symm) argsN)) Try.func57 rfl rfl) same_ok)) ?_
  intro w2 hx2
  have hE := hE.trans hx2
  have hp_v := hp_v.ext hx2
  have hB1 := hB1.ext hx2
  refine L.val rfl (op_and rfl rfl rfl rfl) ?_
  refine L.val rfl (op_assign rfl rfl) ?_
  refine L.nil ?_
  refine thenF_nor ?_
  refine W.ret ?_
  exact end_ret1 (v := (.bool ((decide (x.kind = 1)) && (same_f v x)))) rfl rfl ⟨by simp only [allowed1_f], hE⟩

def prevote1_f (x : Vt) (v : Vt) : Bool := (decide (x.kind = 2)) && (same_f v x)
set_option maxRecDepth 100000 in
theorem prevote1_ok {x : Vt} {p_v : Addr} {v : Vt}  {w : World} (hp_v : Cells w p_v (Enc.cells v)) : Gives Try.prog 77 #[(Enc.val (x : Vt)), (.pointer (some p_v))] w fun u w' => u = (.bool (prevote1_f x v)) ∧ Ext w w' := by
  have hE : Ext w w := Ext.refl w
  refine gives_of_W Try.func77 rfl Try.ntmps77 rfl ?_
  refine W.seq ?_
  refine W.region (by rfl) ?_
  refine L.step rfl (op_box (cs := (Enc.cells (x : Vt))) rfl rfl rfl) ?_
  rintro _ w1 ⟨b1, rfl, hb1, hB1, hx1⟩
  have hE := hE.trans hx1
  have hp_v := hp_v.ext hx1
  refine L.val (v := (.bool false)) rfl (op_assign rfl rfl) ?_
  refine L.nil ?_
  refine thenF_nor ?_
  refine W.seq ?_
  refine W.region (by rfl) ?_
  refine L.val rfl (op_field rfl rfl fo28_0 rfl) ?_
  refine L.val rfl (op_load1 rfl rfl one3 (hB1.cells.one (n := 0) rfl)) ?_
  refine L.val rfl (op_eql rfl rfl rfl) ?_
  refine L.val rfl (op_move rfl rfl) ?_
  refine L.guardv (v := (Enc.val (v : Vt))) (wanted_yes rfl rfl rfl) (fun hg => (op_load (v := (v : Vt)) rfl rfl ty28 hp_v)) ?_
  refine L.guardv (v := (Enc.val (x : Vt))) (wanted_yes rfl rfl rfl) (fun hg => (op_load (v := (x : Vt)) rfl rfl ty28 hB1.cells)) ?_
  refine L.guardc (v := (.bool (same_f v x))) (wanted_yes rfl rfl rfl) (fun hg => (OpS.call (op_call rfl (argsC ((show _ = vif _ (Enc.val (v : Vt)) from rfl).trans (vif_t hg).symm) (argsC ((show _ = vif _ (Enc.val (x : Vt)) from rfl).trans (vif_t hg).symm) argsN)) Try.func57 rfl rfl) same_ok)) ?_
  intro w2 hx2
  have hE := hE.trans hx2
  have hp_v := hp_v.ext hx2
  have hB1 := hB1.ext hx2
  refine L.val rfl (op_and rfl rfl rfl rfl) ?_
  refine L.val rfl (op_assign rfl rfl) ?_
  refine L.nil ?_
  refine thenF_nor ?_
  refine W.ret ?_
  exact end_ret1 (v := (.bool ((decide (x.kind = 2)) && (same_f v x)))) rfl rfl ⟨by simp only [prevote1_f], hE⟩

def prevote2_f (x : Vt) (v : Vt) : Bool := ((decide (x.kind = 4)) && (decide (x.round = (v.round - 1)))) && (same_f v x)
set_option maxRecDepth 100000 in
theorem prevote2_ok {x : Vt} {p_v : Addr} {v : Vt}  {w : World} (hp_v : Cells w p_v (Enc.cells v)) (h0 : 0 ≤ v.round) (h1 : v.round ≤ 100) : Gives Try.prog 78 #[(Enc.val (x : Vt)), (.pointer (some p_v))] w fun u w' => u = (.bool (prevote2_f x v)) ∧ Ext w w' := by
  have hE : Ext w w := Ext.refl w
  refine gives_of_W Try.func78 rfl Try.ntmps78 rfl ?_
  refine W.seq ?_
  refine W.region (by rfl) ?_
  refine L.step rfl (op_box (cs := (Enc.cells (x : Vt))) rfl rfl rfl) ?_
  rintro _ w1 ⟨b1, rfl, hb1, hB1, hx1⟩
  have hE := hE.trans hx1
  have hp_v := hp_v.ext hx1
  refine L.val (v := (.bool false)) rfl (op_assign rfl rfl) ?_
  refine L.nil ?_
  refine thenF_nor ?_
  refine W.seq ?_
  refine W.region (by rfl) ?_
  refine L.val rfl (op_field rfl rfl fo28_0 rfl) ?_
  refine L.val rfl (op_load1 rfl rfl one3 (hB1.cells.one (n := 0) rfl)) ?_
  refine L.val rfl (op_eql rfl rfl rfl) ?_
  refine L.val rfl (op_move rfl rfl) ?_
  refine L.guardv (v := (.pointer (some ⟨b1, 2, none⟩))) (wanted_yes rfl rfl rfl) (fun hg => (op_field rfl rfl fo28_2 rfl)) ?_
  refine L.guardv (v := (.int .i64 x.round)) (wanted_yes rfl rfl rfl) (fun hg => (op_load1 rfl ((show _ = vif _ (.pointer (some ⟨b1, 2, none⟩)) from rfl).trans (vif_t hg).symm) one3 (hB1.cells.one (n := 2) rfl))) ?_
  refine L.guardv (v := (.pointer (some (p_v.add 2)))) (wanted_yes rfl rfl rfl) (fun hg => (op_field rfl rfl fo28_2 rfl)) ?_
  refine L.guardv (v := (.int .i64 v.round)) (wanted_yes rfl rfl rfl) (fun hg => (op_load1 rfl ((show _ = vif _ (.pointer (some (p_v.add 2))) from rfl).trans (vif_t hg).symm) one3 (hp_v.one (n := 2) rfl))) ?_
  refine L.guardv (v := (.int .i64 (v.round - 1))) (wanted_yes rfl rfl rfl) (fun hg => (op_sub rfl ((show _ = vif _ (.int .i64 v.round) from rfl).trans (vif_t hg).symm) rfl rfl (by omega))) ?_
  refine L.guardv (v := (.bool (decide (x.round = (v.round - 1))))) (wanted_yes rfl rfl rfl) (fun hg => (op_eql rfl ((show _ = vif _ (.int .i64 x.round) from rfl).trans (vif_t hg).symm) ((show _ = vif _ (.int .i64 (v.round - 1)) from rfl).trans (vif_t hg).symm))) ?_
  refine L.val rfl (op_and rfl rfl rfl rfl) ?_
  refine L.val rfl (op_move rfl rfl) ?_
  refine L.guardv (v := (Enc.val (v : Vt))) (wanted_yes rfl rfl rfl) (fun hg => (op_load (v := (v : Vt)) rfl rfl ty28 hp_v)) ?_
  refine L.guardv (v := (Enc.val (x : Vt))) (wanted_yes rfl rfl rfl) (fun hg => (op_load (v := (x : Vt)) rfl rfl ty28 hB1.cells)) ?_
  refine L.guardc (v := (.bool (same_f v x))) (wanted_yes rfl rfl rfl) (fun hg => (OpS.call (op_call rfl (argsC ((show _ = vif _ (Enc.val (v : Vt)) from rfl).trans (vif_t hg).symm) (argsC ((show _ = vif _ (Enc.val (x : Vt)) from rfl).trans (vif_t hg).symm) argsN)) Try.func57 rfl rfl) same_ok)) ?_
  intro w2 hx2
  have hE := hE.trans hx2
  have hp_v := hp_v.ext hx2
  have hB1 := hB1.ext hx2
  refine L.val rfl (op_and rfl rfl rfl rfl) ?_
  refine L.val rfl (op_assign rfl rfl) ?_
  refine L.nil ?_
  refine thenF_nor ?_
  refine W.ret ?_
  exact end_ret1 (v := (.bool (((decide (x.kind = 4)) && (decide (x.round = (v.round - 1)))) && (same_f v x)))) rfl rfl ⟨by simp only [prevote2_f], hE⟩

def prevote3_f (x : Vt) (v : Vt) : Bool := ((decide (x.kind = 4)) && (decide (x.round = (v.round - 1)))) && (decide (x.choice = 2))
set_option maxRecDepth 100000 in
theorem prevote3_ok {x : Vt} {p_v : Addr} {v : Vt}  {w : World} (hp_v : Cells w p_v (Enc.cells v)) (h0 : 0 ≤ v.round) (h1 : v.round ≤ 100) : Gives Try.prog 79 #[(Enc.val (x : Vt)), (.pointer (some p_v))] w fun u w' => u = (.bool (prevote3_f x v)) ∧ Ext w w' := by
  have hE : Ext w w := Ext.refl w
  refine gives_of_W Try.func79 rfl Try.ntmps79 rfl ?_
  refine W.seq ?_
  refine W.region (by rfl) ?_
  refine L.step rfl (op_box (cs := (Enc.cells (x : Vt))) rfl rfl rfl) ?_
  rintro _ w1 ⟨b1, rfl, hb1, hB1, hx1⟩
  have hE := hE.trans hx1
  have hp_v := hp_v.ext hx1
  refine L.val (v := (.bool false)) rfl (op_assign rfl rfl) ?_
  refine L.nil ?_
  refine thenF_nor ?_
  refine W.seq ?_
  refine W.region (by rfl) ?_
  refine L.val rfl (op_field rfl rfl fo28_0 rfl) ?_
  refine L.val rfl (op_load1 rfl rfl one3 (hB1.cells.one (n := 0) rfl)) ?_
  refine L.val rfl (op_eql rfl rfl rfl) ?_
  refine L.val rfl (op_move rfl rfl) ?_
  refine L.guardv (v := (.pointer (some ⟨b1, 2, none⟩))) (wanted_yes rfl rfl rfl) (fun hg => (op_field rfl rfl fo28_2 rfl)) ?_
  refine L.guardv (v := (.int .i64 x.round)) (wanted_yes rfl rfl rfl) (fun hg => (op_load1 rfl ((show _ = vif _ (.pointer (some ⟨b1, 2, none⟩)) from rfl).trans (vif_t hg).symm) one3 (hB1.cells.one (n := 2) rfl))) ?_
  refine L.guardv (v := (.pointer (some (p_v.add 2)))) (wanted_yes rfl rfl rfl) (fun hg => (op_field rfl rfl fo28_2 rfl)) ?_
  refine L.guardv (v := (.int .i64 v.round)) (wanted_yes rfl rfl rfl) (fun hg => (op_load1 rfl ((show _ = vif _ (.pointer (some (p_v.add 2))) from rfl).trans (vif_t hg).symm) one3 (hp_v.one (n := 2) rfl))) ?_
  refine L.guardv (v := (.int .i64 (v.round - 1))) (wanted_yes rfl rfl rfl) (fun hg => (op_sub rfl ((show _ = vif _ (.int .i64 v.round) from rfl).trans (vif_t hg).symm) rfl rfl (by omega))) ?_
  refine L.guardv (v := (.bool (decide (x.round = (v.round - 1))))) (wanted_yes rfl rfl rfl) (fun hg => (op_eql rfl ((show _ = vif _ (.int .i64 x.round) from rfl).trans (vif_t hg).symm) ((show _ = vif _ (.int .i64 (v.round - 1)) from rfl).trans (vif_t hg).symm))) ?_
  refine L.val rfl (op_and rfl rfl rfl rfl) ?_
  refine L.val rfl (op_move rfl rfl) ?_
  refine L.guardv (v := (.pointer (some ⟨b1, 3, none⟩))) (wanted_yes rfl rfl rfl) (fun hg => (op_field rfl rfl fo28_3 rfl)) ?_
  refine L.guardv (v := (.int .i64 x.choice)) (wanted_yes rfl rfl rfl) (fun hg => (op_load1 rfl ((show _ = vif _ (.pointer (some ⟨b1, 3, none⟩)) from rfl).trans (vif_t hg).symm) one3 (hB1.cells.one (n := 3) rfl))) ?_
  refine L.guardv (v := (.bool (decide (x.choice = 2)))) (wanted_yes rfl rfl rfl) (fun hg => (op_eql rfl ((show _ = vif _ (.int .i64 x.choice) from rfl).trans (vif_t hg).symm) rfl)) ?_
  refine L.val rfl (op_and rfl rfl rfl rfl) ?_
  refine L.val rfl (op_assign rfl rfl) ?_
  refine L.nil ?_
  refine thenF_nor ?_
  refine W.ret ?_
  exact end_ret1 (v := (.bool (((decide (x.kind = 4)) && (decide (x.round = (v.round - 1)))) && (decide (x.choice = 2))))) rfl rfl ⟨by simp only [prevote3_f], hE⟩

def prevote4_f (x : Vt) (pa : Vt → Bool) (pb : Vt → Bool) : Bool := (pa x) || (pb x)
set_option maxRecDepth 100000 in
theorem prevote4_ok {x : Vt} {q_pa : Addr} {fv_pa : Value} {pa : Vt → Bool} {q_pb : Addr} {fv_pb : Value} {pb : Vt → Bool}  {w : World} (hq_pa : Cells w q_pa [fv_pa]) (hf_pa : Fits Try.prog w fv_pa pa) (hq_pb : Cells w q_pb [fv_pb]) (hf_pb : Fits Try.prog w fv_pb pb) : Gives Try.prog 80 #[(Enc.val (x : Vt)), (.pointer (some q_pa)), (.pointer (some q_pb))] w fun u w' => u = (.bool (prevote4_f x pa pb)) ∧ Ext w w' := by
  have hE : Ext w w := Ext.refl w
  refine gives_of_W Try.func80 rfl Try.ntmps80 rfl ?_
  refine W.seq ?_
  refine W.region (by rfl) ?_
  refine L.step rfl (op_box (cs := (Enc.cells (x : Vt))) rfl rfl rfl) ?_
  rintro _ w1 ⟨b1, rfl, hb1, hB1, hx1⟩
  have hE := hE.trans hx1
  have hq_pa := hq_pa.ext hx1
  have hf_pa := hf_pa.ext hx1
  have hq_pb := hq_pb.ext hx1
  have hf_pb := hf_pb.ext hx1
  refine L.val (v := (.bool false)) rfl (op_assign rfl rfl) ?_
  refine L.nil ?_
  refine thenF_nor ?_
  refine W.seq ?_
  refine W.region (by rfl) ?_
  refine L.val rfl (op_load1 rfl rfl one65 (hq_pa.one (n := 0) rfl)) ?_
  refine L.val rfl (op_load (v := (x : Vt)) rfl rfl ty28 hB1.cells) ?_
  refine L.call (v := (.bool (pa x))) rfl (op_fits (a := (x : Vt)) hf_pa rfl rfl rfl) ?_
  intro w2 hx2
  have hE := hE.trans hx2
  have hq_pa := hq_pa.ext hx2
  have hf_pa := hf_pa.ext hx2
  have hq_pb := hq_pb.ext hx2
  have hf_pb := hf_pb.ext hx2
  have hB1 := hB1.ext hx2
  refine L.val rfl (op_move rfl rfl) ?_
  refine L.guardv (v := fv_pb) (wanted_no rfl rfl rfl) (fun hg => (op_load1 rfl rfl one65 (hq_pb.one (n := 0) rfl))) ?_
  refine L.guardv (v := (Enc.val (x : Vt))) (wanted_no rfl rfl rfl) (fun hg => (op_load (v := (x : Vt)) rfl rfl ty28 hB1.cells)) ?_
  refine L.guardc (v := (.bool (pb x))) (wanted_no rfl rfl rfl) (fun hg => (op_fits (a := (x : Vt)) hf_pb rfl ((show _ = vif _ fv_pb from rfl).trans (vif_t hg).symm) ((show _ = vif _ (Enc.val (x : Vt)) from rfl).trans (vif_t hg).symm))) ?_
  intro w3 hx3
  have hE := hE.trans hx3
  have hq_pa := hq_pa.ext hx3
  have hf_pa := hf_pa.ext hx3
  have hq_pb := hq_pb.ext hx3
  have hf_pb := hf_pb.ext hx3
  have hB1 := hB1.ext hx3
  refine L.val rfl (op_or rfl rfl rfl rfl) ?_
  refine L.val rfl (op_assign rfl rfl) ?_
  refine L.nil ?_
  refine thenF_nor ?_
  refine W.ret ?_
  exact end_ret1 (v := (.bool ((pa x) || (pb x)))) rfl rfl ⟨by simp only [prevote4_f], hE⟩

def prevote5_f (x : Vt) (v : Vt) (pa : Vt → Bool) : Bool := (has_f v.support x.signer) && (pa x)
set_option maxRecDepth 100000 in
theorem prevote5_ok {x : Vt} {p_v : Addr} {v : Vt} {q_pa : Addr} {fv_pa : Value} {pa : Vt → Bool}  {w : World} (hp_v : Cells w p_v (Enc.cells v)) (hq_pa : Cells w q_pa [fv_pa]) (hf_pa : Fits Try.prog w fv_pa pa) : Gives Try.prog 81 #[(Enc.val (x : Vt)), (.pointer (some p_v)), (.pointer (some q_pa))] w fun u w' => u = (.bool (prevote5_f x v pa)) ∧ Ext w w' := by
  have hE : Ext w w := Ext.refl w
  refine gives_of_W Try.func81 rfl Try.ntmps81 rfl ?_
  refine W.seq ?_
  refine W.region (by rfl) ?_
  refine L.step rfl (op_box (cs := (Enc.cells (x : Vt))) rfl rfl rfl) ?_
  rintro _ w1 ⟨b1, rfl, hb1, hB1, hx1⟩
  have hE := hE.trans hx1
  have hp_v := hp_v.ext hx1
  have hq_pa := hq_pa.ext hx1
  have hf_pa := hf_pa.ext hx1
  refine L.val (v := (.bool false)) rfl (op_assign rfl rfl) ?_
  refine L.nil ?_
  refine thenF_nor ?_
  refine W.seq ?_
  refine W.region (by rfl) ?_
  refine L.val rfl (op_field rfl rfl fo28_5 rfl) ?_
  refine L.val rfl (op_load1 rfl rfl one22 (hp_v.one (n := 5) rfl)) ?_
  refine L.val rfl (op_field rfl rfl fo28_4 rfl) ?_
  refine L.val rfl (op_load1 rfl rfl one3 (hB1.cells.one (n := 4) rfl)) ?_
  refine L.call (v := (.bool (has_f v.support x.signer))) rfl (OpS.call (op_call rfl (argsC rfl (argsC rfl argsN)) Try.func54 rfl rfl) Has_ok) ?_
  intro w2 hx2
  have hE := hE.trans hx2
  have hp_v := hp_v.ext hx2
  have hq_pa := hq_pa.ext hx2
  have hf_pa := hf_pa.ext hx2
  have hB1 := hB1.ext hx2
  refine L.val rfl (op_move rfl rfl) ?_
  refine L.guardv (v := fv_pa) (wanted_yes rfl rfl rfl) (fun hg => (op_load1 rfl rfl one65 (hq_pa.one (n := 0) rfl))) ?_
  refine L.guardv (v := (Enc.val (x : Vt))) (wanted_yes rfl rfl rfl) (fun hg => (op_load (v := (x : Vt)) rfl rfl ty28 hB1.cells)) ?_
  refine L.guardc (v := (.bool (pa x))) (wanted_yes rfl rfl rfl) (fun hg => (op_fits (a := (x : Vt)) hf_pa rfl ((show _ = vif _ fv_pa from rfl).trans (vif_t hg).symm) ((show _ = vif _ (Enc.val (x : Vt)) from rfl).trans (vif_t hg).symm))) ?_
  intro w3 hx3
  have hE := hE.trans hx3
  have hp_v := hp_v.ext hx3
  have hq_pa := hq_pa.ext hx3
  have hf_pa := hf_pa.ext hx3
  have hB1 := hB1.ext hx3
  refine L.val rfl (op_and rfl rfl rfl rfl) ?_
  refine L.val rfl (op_assign rfl rfl) ?_
  refine L.nil ?_
  refine thenF_nor ?_
  refine W.ret ?_
  exact end_ret1 (v := (.bool ((has_f v.support x.signer) && (pa x)))) rfl rfl ⟨by simp only [prevote5_f], hE⟩

def prevote6_f (x : Vt) (v : Vt) : Bool := ((decide (x.kind = 3)) && (decide (x.round = (v.round - 1)))) && (same_f v x)
set_option maxRecDepth 100000 in
theorem prevote6_ok {x : Vt} {p_v : Addr} {v : Vt}  {w : World} (hp_v : Cells w p_v (Enc.cells v)) (h0 : 0 ≤ v.round) (h1 : v.round ≤ 100) : Gives Try.prog 82 #[(Enc.val (x : Vt)), (.pointer (some p_v))] w fun u w' => u = (.bool (prevote6_f x v)) ∧ Ext w w' := by
  have hE : Ext w w := Ext.refl w
  refine gives_of_W Try.func82 rfl Try.ntmps82 rfl ?_
  refine W.seq ?_
  refine W.region (by rfl) ?_
  refine L.step rfl (op_box (cs := (Enc.cells (x : Vt))) rfl rfl rfl) ?_
  rintro _ w1 ⟨b1, rfl, hb1, hB1, hx1⟩
  have hE := hE.trans hx1
  have hp_v := hp_v.ext hx1
  refine L.val (v := (.bool false)) rfl (op_assign rfl rfl) ?_
  refine L.nil ?_
  refine thenF_nor ?_
  refine W.seq ?_
  refine W.region (by rfl) ?_
  refine L.val rfl (op_field rfl rfl fo28_0 rfl) ?_
  refine L.val rfl (op_load1 rfl rfl one3 (hB1.cells.one (n := 0) rfl)) ?_
  refine L.val rfl (op_eql rfl rfl rfl) ?_
  refine L.val rfl (op_move rfl rfl) ?_
  refine L.guardv (v := (.pointer (some ⟨b1, 2, none⟩))) (wanted_yes rfl rfl rfl) (fun hg => (op_field rfl rfl fo28_2 rfl)) ?_
  refine L.guardv (v := (.int .i64 x.round)) (wanted_yes rfl rfl rfl) (fun hg => (op_load1 rfl ((show _ = vif _ (.pointer (some ⟨b1, 2, none⟩)) from rfl).trans (vif_t hg).symm) one3 (hB1.cells.one (n := 2) rfl))) ?_
  refine L.guardv (v := (.pointer (some (p_v.add 2)))) (wanted_yes rfl rfl rfl) (fun hg => (op_field rfl rfl fo28_2 rfl)) ?_
  refine L.guardv (v := (.int .i64 v.round)) (wanted_yes rfl rfl rfl) (fun hg => (op_load1 rfl ((show _ = vif _ (.pointer (some (p_v.add 2))) from rfl).trans (vif_t hg).symm) one3 (hp_v.one (n := 2) rfl))) ?_
  refine L.guardv (v := (.int .i64 (v.round - 1))) (wanted_yes rfl rfl rfl) (fun hg => (op_sub rfl ((show _ = vif _ (.int .i64 v.round) from rfl).trans (vif_t hg).symm) rfl rfl (by omega))) ?_
  refine L.guardv (v := (.bool (decide (x.round = (v.round - 1))))) (wanted_yes rfl rfl rfl) (fun hg => (op_eql rfl ((show _ = vif _ (.int .i64 x.round) from rfl).trans (vif_t hg).symm) ((show _ = vif _ (.int .i64 (v.round - 1)) from rfl).trans (vif_t hg).symm))) ?_
  refine L.val rfl (op_and rfl rfl rfl rfl) ?_
  refine L.val rfl (op_move rfl rfl) ?_
  refine L.guardv (v := (Enc.val (v : Vt))) (wanted_yes rfl rfl rfl) (fun hg => (op_load (v := (v : Vt)) rfl rfl ty28 hp_v)) ?_
  refine L.guardv (v := (Enc.val (x : Vt))) (wanted_yes rfl rfl rfl) (fun hg => (op_load (v := (x : Vt)) rfl rfl ty28 hB1.cells)) ?_
  refine L.guardc (v := (.bool (same_f v x))) (wanted_yes rfl rfl rfl) (fun hg => (OpS.call (op_call rfl (argsC ((show _ = vif _ (Enc.val (v : Vt)) from rfl).trans (vif_t hg).symm) (argsC ((show _ = vif _ (Enc.val (x : Vt)) from rfl).trans (vif_t hg).symm) argsN)) Try.func57 rfl rfl) same_ok)) ?_
  intro w2 hx2
  have hE := hE.trans hx2
  have hp_v := hp_v.ext hx2
  have hB1 := hB1.ext hx2
  refine L.val rfl (op_and rfl rfl rfl rfl) ?_
  refine L.val rfl (op_assign rfl rfl) ?_
  refine L.nil ?_
  refine thenF_nor ?_
  refine W.ret ?_
  exact end_ret1 (v := (.bool (((decide (x.kind = 3)) && (decide (x.round = (v.round - 1)))) && (same_f v x)))) rfl rfl ⟨by simp only [prevote6_f], hE⟩

def precommit1_f (x : Vt) (v : Vt) : Bool := (decide (x.kind = 3)) && (decide (x.round = v.round))
set_option maxRecDepth 100000 in
theorem precommit1_ok {x : Vt} {p_v : Addr} {v : Vt}  {w : World} (hp_v : Cells w p_v (Enc.cells v)) : Gives Try.prog 83 #[(Enc.val (x : Vt)), (.pointer (some p_v))] w fun u w' => u = (.bool (precommit1_f x v)) ∧ Ext w w' := by
  have hE : Ext w w := Ext.refl w
  refine gives_of_W Try.func83 rfl Try.ntmps83 rfl ?_
  refine W.seq ?_
  refine W.region (by rfl) ?_
  refine L.step rfl (op_box (cs := (Enc.cells (x : Vt))) rfl rfl rfl) ?_
  rintro _ w1 ⟨b1, rfl, hb1, hB1, hx1⟩
  have hE := hE.trans hx1
  have hp_v := hp_v.ext hx1
  refine L.val (v := (.bool false)) rfl (op_assign rfl rfl) ?_
  refine L.nil ?_
  refine thenF_nor ?_
  refine W.seq ?_
  refine W.region (by rfl) ?_
  refine L.val rfl (op_field rfl rfl fo28_0 rfl) ?_
  refine L.val rfl (op_load1 rfl rfl one3 (hB1.cells.one (n := 0) rfl)) ?_
  refine L.val rfl (op_eql rfl rfl rfl) ?_
  refine L.val rfl (op_move rfl rfl) ?_
  refine L.guardv (v := (.pointer (some ⟨b1, 2, none⟩))) (wanted_yes rfl rfl rfl) (fun hg => (op_field rfl rfl fo28_2 rfl)) ?_
  refine L.guardv (v := (.int .i64 x.round)) (wanted_yes rfl rfl rfl) (fun hg => (op_load1 rfl ((show _ = vif _ (.pointer (some ⟨b1, 2, none⟩)) from rfl).trans (vif_t hg).symm) one3 (hB1.cells.one (n := 2) rfl))) ?_
  refine L.guardv (v := (.pointer (some (p_v.add 2)))) (wanted_yes rfl rfl rfl) (fun hg => (op_field rfl rfl fo28_2 rfl)) ?_
  refine L.guardv (v := (.int .i64 v.round)) (wanted_yes rfl rfl rfl) (fun hg => (op_load1 rfl ((show _ = vif _ (.pointer (some (p_v.add 2))) from rfl).trans (vif_t hg).symm) one3 (hp_v.one (n := 2) rfl))) ?_
  refine L.guardv (v := (.bool (decide (x.round = v.round)))) (wanted_yes rfl rfl rfl) (fun hg => (op_eql rfl ((show _ = vif _ (.int .i64 x.round) from rfl).trans (vif_t hg).symm) ((show _ = vif _ (.int .i64 v.round) from rfl).trans (vif_t hg).symm))) ?_
  refine L.val rfl (op_and rfl rfl rfl rfl) ?_
  refine L.val rfl (op_assign rfl rfl) ?_
  refine L.nil ?_
  refine thenF_nor ?_
  refine W.ret ?_
  exact end_ret1 (v := (.bool ((decide (x.kind = 3)) && (decide (x.round = v.round))))) rfl rfl ⟨by simp only [precommit1_f], hE⟩

def precommit2_f (x : Vt) (pa : Vt → Bool) (v : Vt) : Bool := (pa x) && (same_f v x)
set_option maxRecDepth 100000 in
theorem precommit2_ok {x : Vt} {q_pa : Addr} {fv_pa : Value} {pa : Vt → Bool} {p_v : Addr} {v : Vt}  {w : World} (hq_pa : Cells w q_pa [fv_pa]) (hf_pa : Fits Try.prog w fv_pa pa) (hp_v : Cells w p_v (Enc.cells v)) : Gives Try.prog 84 #[(Enc.val (x : Vt)), (.pointer (some q_pa)), (.pointer (some p_v))] w fun u w' => u = (.bool (precommit2_f x pa v)) ∧ Ext w w' := by
  have hE : Ext w w := Ext.refl w
  refine gives_of_W Try.func84 rfl Try.ntmps84 rfl ?_
  refine W.seq ?_
  refine W.region (by rfl) ?_
  refine L.step rfl (op_box (cs := (Enc.cells (x : Vt))) rfl rfl rfl) ?_
  rintro _ w1 ⟨b1, rfl, hb1, hB1, hx1⟩
  have hE := hE.trans hx1
  have hq_pa := hq_pa.ext hx1
  have hf_pa := hf_pa.ext hx1
  have hp_v := hp_v.ext hx1
  refine L.val (v := (.bool false)) rfl (op_assign rfl rfl) ?_
  refine L.nil ?_
  refine thenF_nor ?_
  refine W.seq ?_
  refine W.region (by rfl) ?_
  refine L.val rfl (op_load1 rfl rfl one65 (hq_pa.one (n := 0) rfl)) ?_
  refine L.val rfl (op_load (v := (x : Vt)) rfl rfl ty28 hB1.cells) ?_
  refine L.call (v := (.bool (pa x))) rfl (op_fits (a := (x : Vt)) hf_pa rfl rfl rfl) ?_
  intro w2 hx2
  have hE := hE.trans hx2
  have hq_pa := hq_pa.ext hx2
  have hf_pa := hf_pa.ext hx2
  have hp_v := hp_v.ext hx2
  have hB1 := hB1.ext hx2
  refine L.val rfl (op_move rfl rfl) ?_
  refine L.guardv (v := (Enc.val (v : Vt))) (wanted_yes rfl rfl rfl) (fun hg => (op_load (v := (v : Vt)) rfl rfl ty28 hp_v)) ?_
  refine L.guardv (v := (Enc.val (x : Vt))) (wanted_yes rfl rfl rfl) (fun hg => (op_load (v := (x : Vt)) rfl rfl ty28 hB1.cells)) ?_
  refine L.guardc (v := (.bool (same_f v x))) (wanted_yes rfl rfl rfl) (fun hg => (OpS.call (op_call rfl (argsC ((show _ = vif _ (Enc.val (v : Vt)) from rfl).trans (vif_t hg).symm) (argsC ((show _ = vif _ (Enc.val (x : Vt)) from rfl).trans (vif_t hg).symm) argsN)) Try.func57 rfl rfl) same_ok)) ?_
  intro w3 hx3
  have hE := hE.trans hx3
  have hq_pa := hq_pa.ext hx3
  have hf_pa := hf_pa.ext hx3
  have hp_v := hp_v.ext hx3
  have hB1 := hB1.ext hx3
  refine L.val rfl (op_and rfl rfl rfl rfl) ?_
  refine L.val rfl (op_assign rfl rfl) ?_
  refine L.nil ?_
  refine thenF_nor ?_
  refine W.ret ?_
  exact end_ret1 (v := (.bool ((pa x) && (same_f v x)))) rfl rfl ⟨by simp only [precommit2_f], hE⟩

def supported1_f (x : Vt) (i : Int) (pa : Vt → Bool) : Bool := (decide (x.signer = i)) && (pa x)
set_option maxRecDepth 100000 in
theorem supported1_ok {x : Vt} {p_i : Addr} {i : Int} {q_pa : Addr} {fv_pa : Value} {pa : Vt → Bool}  {w : World} (hp_i : Cells w p_i (Enc.cells i)) (hq_pa : Cells w q_pa [fv_pa]) (hf_pa : Fits Try.prog w fv_pa pa) : Gives Try.prog 102 #[(Enc.val (x : Vt)), (.pointer (some p_i)), (.pointer (some q_pa))] w fun u w' => u = (.bool (supported1_f x i pa)) ∧ Ext w w' := by
  have hE : Ext w w := Ext.refl w
  refine gives_of_W Try.func102 rfl Try.ntmps102 rfl ?_
  refine W.seq ?_
  refine W.region (by rfl) ?_
  refine L.step rfl (op_box (cs := (Enc.cells (x : Vt))) rfl rfl rfl) ?_
  rintro _ w1 ⟨b1, rfl, hb1, hB1, hx1⟩
  have hE := hE.trans hx1
  have hp_i := hp_i.ext hx1
  have hq_pa := hq_pa.ext hx1
  have hf_pa := hf_pa.ext hx1
  refine L.val (v := (.bool false)) rfl (op_assign rfl rfl) ?_
  refine L.nil ?_
  refine thenF_nor ?_
  refine W.seq ?_
  refine W.region (by rfl) ?_
  refine L.val rfl (op_field rfl rfl fo28_4 rfl) ?_
  refine L.val rfl (op_load1 rfl rfl one3 (hB1.cells.one (n := 4) rfl)) ?_
  refine L.val rfl (op_load1 rfl rfl one3 (hp_i.one (n := 0) rfl)) ?_
  refine L.val rfl (op_eql rfl rfl rfl) ?_
  refine L.val rfl (op_move rfl rfl) ?_
  refine L.guardv (v := fv_pa) (wanted_yes rfl rfl rfl) (fun hg => (op_load1 rfl rfl one65 (hq_pa.one (n := 0) rfl))) ?_
  refine L.guardv (v := (Enc.val (x : Vt))) (wanted_yes rfl rfl rfl) (fun hg => (op_load (v := (x : Vt)) rfl rfl ty28 hB1.cells)) ?_
  refine L.guardc (v := (.bool (pa x))) (wanted_yes rfl rfl rfl) (fun hg => (op_fits (a := (x : Vt)) hf_pa rfl ((show _ = vif _ fv_pa from rfl).trans (vif_t hg).symm) ((show _ = vif _ (Enc.val (x : Vt)) from rfl).trans (vif_t hg).symm))) ?_
  intro w2 hx2
  have hE := hE.trans hx2
  have hp_i := hp_i.ext hx2
  have hq_pa := hq_pa.ext hx2
  have hf_pa := hf_pa.ext hx2
  have hB1 := hB1.ext hx2
  refine L.val rfl (op_and rfl rfl rfl rfl) ?_
  refine L.val rfl (op_assign rfl rfl) ?_
  refine L.nil ?_
  refine thenF_nor ?_
  refine W.ret ?_
  exact end_ret1 (v := (.bool ((decide (x.signer = i)) && (pa x)))) rfl rfl ⟨by simp only [supported1_f], hE⟩

set_option maxRecDepth 100000 in
theorem has_ok {m_c q_c : Int} {A_c : Option Addr} {c_c lo_c hi_c : Nat} {c : List Vt} {fv_p : Value} {p : Vt → Bool}  {w : World} (hR_c : Rd w lo_c hi_c A_c c) (hf_p : Fits Try.prog w fv_p p) : Gives Try.prog 55 #[(.agg #[(.int .i64 m_c), (.int .i64 q_c), (.slice A_c c.length c_c)]), fv_p] w fun u w' => u = (.bool (c.any p)) ∧ Ext w w' := by
  have hE : Ext w w := Ext.refl w
  have hlen_c := hR_c.len
  refine gives_of_W Try.func55 rfl Try.ntmps55 rfl ?_
  refine W.seq ?_
  refine W.region (by rfl) ?_
  refine L.step rfl (op_box (cs := [(.int .i64 m_c), (.int .i64 q_c), (.slice A_c c.length c_c)]) rfl rfl rfl) ?_
  rintro _ w1 ⟨b1, rfl, hb1, hB1, hx1⟩
  have hE := hE.trans hx1
  have hR_c := hR_c.ext hx1
  have hf_p := hf_p.ext hx1
  refine L.val (v := (.bool false)) rfl (op_assign rfl rfl) ?_
  refine L.nil ?_
  refine thenF_nor ?_
  refine W.seq ?_
  refine W.seq ?_
  refine W.region (by rfl) ?_
  refine L.val rfl (op_field rfl rfl fo68_2 rfl) ?_
  refine L.val rfl (op_load1 rfl rfl one25 (hB1.cells.one (n := 2) rfl)) ?_
  refine L.val rfl (op_len rfl rfl ln25) ?_
  refine L.val rfl (op_move rfl rfl) ?_
  refine L.nil ?_
  refine thenF_nor ?_
  refine W.block ?_
  have S2_hR_c := hR_c
  have S2_hf_p := hf_p
  have S2_hB1 := hB1
  have S2_hE := hE
  have hS2 : Ext w1 w1 := Ext.refl _
  refine W.loopg (γ := Nat) (fun (k : Nat) (f : Fr) (ww : World) => k ≤ c.length ∧ (c.drop k).any p = c.any p ∧ f 1 = fv_p ∧ f 8 = (.slice A_c c.length c_c) ∧ f 9 = (.int .i64 (c.length : Int)) ∧ f 10 = (.int .i64 ((k : Nat) : Int)) ∧ Ext w1 ww) (fun (k : Nat) => c.length - k) 0 ⟨(by (try dsimp only); omega), rfl, rfl, rfl, rfl, rfl, hS2⟩ ?_
  rintro k f3 w3 ⟨hk, hany, s3_1, s3_8, s3_9, s3_10, hS2⟩
  have hR_c := S2_hR_c.ext hS2
  have hf_p := S2_hf_p.ext hS2
  have hB1 := S2_hB1.ext hS2
  have hE := S2_hE.trans hS2
  refine W.seq ?_
  refine W.region (by rfl) ?_
  refine L.val rfl (op_lss rfl s3_10 s3_9) ?_
  refine L.nil ?_
  refine thenF_nor ?_
  refine W.seq ?_
  refine W.cond (t := decide (((k : Nat) : Int) < (c.length : Int))) rfl (fun hc4 => ?_) (fun hc4 => ?_)
  · have hp4 := hc4
    simp only [Bool.and_eq_true, Bool.or_eq_true, Bool.and_eq_false_iff, Bool.or_eq_false_iff, Bool.not_eq_true', Bool.not_eq_false', decide_eq_true_eq, decide_eq_false_iff_not] at hp4
    refine W.skip ?_
    refine thenF_nor ?_
    refine W.seq ?_
    refine W.block ?_
    refine W.seq ?_
    refine W.region (by rfl) ?_
    refine L.val rfl (op_index (k := k) rfl s3_8 s3_10 sl25 (hR_c.getA (get_bang (l := c) (k := k) (by omega))).1 rfl (by omega) rfl) ?_
    refine L.val rfl (op_load (v := (c[k]! : Vt)) rfl rfl ty28 (hR_c.getA (get_bang (l := c) (k := k) (by omega))).2) ?_
    refine L.newvar (v := (Enc.val (c[k]! : Vt))) (cs := (Enc.cells (c[k]! : Vt))) rfl rfl rfl rfl rfl rfl (fun _ => rfl) rfl si28 zs28 (Enc.one _) ?_
    intro b5 w5 hb5 hB5 hx5
    have hbb5_hE := Nat.le_trans hE.size hb5
    have hbb5_hS2 := Nat.le_trans hS2.size hb5
    have hE := hE.trans hx5
    have hS2 := hS2.trans hx5
    have hR_c := hR_c.ext hx5
    have hf_p := hf_p.ext hx5
    have hB1 := hB1.ext hx5
    refine L.nil ?_
    refine thenF_nor ?_
    refine W.seq ?_
    refine W.region (by rfl) ?_
    refine L.val rfl (op_move rfl s3_1) ?_
    refine L.val rfl (op_load (v := (c[k]! : Vt)) rfl rfl ty28 hB5.cells) ?_
    refine L.call (v := (.bool (p (c[k]!)))) rfl (op_fits (a := (c[k]! : Vt)) hf_p rfl rfl rfl) ?_
    intro w6 hx6
    have hE := hE.trans hx6
    have hS2 := hS2.trans hx6
    have hR_c := hR_c.ext hx6
    have hf_p := hf_p.ext hx6
    have hB1 := hB1.ext hx6
    have hB5 := hB5.ext hx6
    refine L.nil ?_
    refine thenF_nor ?_
    refine W.cond (t := p (c[k]!)) rfl (fun hc7 => ?_) (fun hc7 => ?_)
    · have hp7 := hc7
      have hyes := hc7
      have hres := any_yes hany (by omega) hyes
      refine W.seq ?_
      refine W.region (by rfl) ?_
      refine L.val (v := (.bool true)) rfl (op_assign rfl rfl) ?_
      refine L.nil ?_
      refine thenF_nor ?_
      refine W.ret ?_
      refine blockF_ret ?_
      refine thenF_ret ?_
      refine thenF_ret ?_
      refine blockF_ret ?_
      refine thenF_ret ?_
      exact end_ret1 (v := (.bool true)) rfl rfl ⟨(by rw [← hres]), hE⟩
    · have hp7 := hc7
      have hno := hc7
      refine W.skip ?_
      refine blockF_nor ?_
      refine thenF_nor ?_
      refine W.region (by rfl) ?_
      refine L.val rfl (op_add (c := ((k + 1 : Nat) : Int)) rfl s3_10 rfl (by omega) (by omega)) ?_
      refine L.val rfl (op_move rfl rfl) ?_
      refine L.nil ?_
      refine thenF_nor ?_
      exact ⟨k + 1, ⟨(by (try dsimp only); omega), (any_go hany (by omega) hno), s3_1, s3_8, s3_9, rfl, hS2⟩, (by (try dsimp only); omega)⟩
  · have hp4 := hc4
    simp only [Bool.and_eq_true, Bool.or_eq_true, Bool.and_eq_false_iff, Bool.or_eq_false_iff, Bool.not_eq_true', Bool.not_eq_false', decide_eq_true_eq, decide_eq_false_iff_not] at hp4
    have hres := any_end hany (by omega)
    refine W.exit ?_
    refine thenF_exit ?_
    refine thenF_exit ?_
    refine blockF_hit ?_
    refine thenF_nor ?_
    refine W.seq ?_
    refine W.region (by rfl) ?_
    refine L.val (v := (.bool false)) rfl (op_assign rfl rfl) ?_
    refine L.nil ?_
    refine thenF_nor ?_
    refine W.ret ?_
    exact end_ret1 (v := (.bool false)) rfl rfl ⟨(by rw [← hres]), hE⟩

end Go.Proofs.Ytdknjfmjddlphaa

/-
  What some functions of the program compute, where the printer does not write it itself. No walk.
-/
namespace Go.Proofs.Ytdknjfmjddlphaa
open Go Go.Fk

/-- the ids in a mask, ascending -/
def ids_f (m : Int) : List Int := ((List.range 10).map fun (k : Nat) => (k : Int)).filter fun i => has_f m i
/-- the support is a set of exactly q members, each with a vote that fits -/
def supported_f (m q : Int) (v : Vt) (l : List Vt) (p : Vt → Bool) : Bool :=
  bif (!decide ((iandn v.support m) = 0)) || (!decide ((size_f v.support) = q)) then false else (ids_f v.support).all fun i => l.any fun x => supported1_f x i p
end Go.Proofs.Ytdknjfmjddlphaa

/-
  committee.IDs: the ids in a mask, ascending: a loop over committee.members' iterator.
-/
namespace Go.Proofs.Ytdknjfmjddlphaa
open Go Go.Fk Go.RowKit Go.Shelf Go.Proofs

attribute [local go_sem] Oper.semAt_some

/-- the ids below k -/
def idsUpto (m : Int) (k : Nat) : List Int := ((List.range k).map fun (k : Nat) => (k : Int)).filter fun i => has_f m i
theorem idsUpto_yes {m : Int} {k : Nat} (h : has_f m k = true) : idsUpto m (k + 1) = idsUpto m k ++ [(k : Int)] := by
  simp [idsUpto, List.range_succ, h]
theorem idsUpto_no {m : Int} {k : Nat} (h : has_f m k = false) : idsUpto m (k + 1) = idsUpto m k := by
  simp [idsUpto, List.range_succ, h]
theorem idsUpto_len (m : Int) (k : Nat) : (idsUpto m k).length ≤ k := by
  refine Nat.le_trans (List.length_filter_le _ _) ?_; simp
theorem idsUpto_pre (m : Int) (k : Nat) (h : k ≤ 10) : idsUpto m k <+: idsUpto m 10 := by
  obtain ⟨j, hj⟩ : ∃ j, 10 = k + j := ⟨10 - k, by omega⟩
  rw [hj]
  clear hj h
  induction j with
  | zero => exact List.prefix_refl _
  | succ j ih =>
    refine ih.trans ?_
    cases h : has_f m ((k + j : Nat) : Int) with
    | true => exact ⟨_, (idsUpto_yes h).symm⟩
    | false => exact ⟨[], by rw [List.append_nil]; exact (idsUpto_no h).symm⟩

/-- what a round must leave: the mask in its variable -/
def KpM (Bm : Nat) (W W' : World) : Prop := W.heap.size ≤ W'.heap.size ∧ ∀ v, W.cell? ⟨Bm, 0, none⟩ = some v → W'.cell? ⟨Bm, 0, none⟩ = some v
theorem KpM.t {Bm : Nat} {A B C : World} (h : KpM Bm A B) (k : KpM Bm B C) : KpM Bm A C := ⟨Nat.le_trans h.1 k.1, fun v hv => k.2 v (h.2 v hv)⟩
theorem KpM.b {Bm : Nat} (W : World) (l : Nat) (o o' : Obj) (h : W.heap[l]? = some o) (hc : o.isCells = false) : KpM Bm W (W.putObj l o') :=
  ⟨by simp [World.putObj], fun v hv => cell_kept hv (grownBy_putObj' W l o') (fun r e => by cases e; exact ⟨o, h, hc⟩)⟩

set_option maxRecDepth 100000 in
set_option maxHeartbeats 4000000 in
theorem members1_in (n : Nat) (hn : 2 ≤ n) (l Bm : Nat) (m : Int) (J Jx : List Int → World → Prop)
    (hY : ∀ pre x W, J pre W → pre.length < 10 → YieldAt Fence.wide (n - 1) Try.prog l #[.int .i64 x] W fun e W' =>
      (e = .returned (.bool true) ∧ J (pre ++ [x]) W' ∧ KpM Bm W W') ∨ (e = .returned (.bool false) ∧ Jx (pre ++ [x]) W'))
    (W : World) (hJ : AbidesFrom W.heap.size J) (hBm : W.cell? ⟨Bm, 0, none⟩ = some (.int .i64 m)) (h0 : J [] W) :
    CallsIn Fence.wide n Try.prog 95 #[.func (.yield l) #[] #[], .pointer (some ⟨Bm, 0, none⟩)] W fun e W' => (∃ v, e = .returned v) ∧
      ((∃ ys, ys = idsUpto m 10 ∧ J ys W') ∨ (∃ pre, pre <+: idsUpto m 10 ∧ Jx pre W')) := by
  refine callsIn_of_wp Try.func95 rfl trivial ?_ rfl
  simp only [Try.ntmps95, List.size_toArray, List.length_cons, List.length_nil, Nat.reduceAdd, Nat.reduceSub, Array.replicate_succ, Array.replicate_zero, List.push_toArray, List.append_toArray, List.nil_append, List.cons_append]
  gi_wp2
  gi_loopw [4] (fun p wr => ∃ (k : Nat), p = .int .i64 (k : Int) ∧ k ≤ 10 ∧ W.heap.size ≤ wr.heap.size ∧ wr.cell? ⟨Bm, 0, none⟩ = some (.int .i64 m) ∧ J (idsUpto m k) wr)
    (fun p wr => 10 - (intOf p).toNat)
  case atStart => exact ⟨0, rfl, by omega, Nat.le_refl _, hBm, h0⟩
  case round =>
    obtain ⟨k, rfl, hk, hsz, hc, hJs⟩ := hrel
    by_cases hlt : k < 10
    · have hlt' : (k : Int) < 10 := by omega
      have hcall := Has_ok (m := m) (i := (k : Int)) (w := wr)
      cases hb : has_f m (k : Int) with
      | true =>
        rw [hb] at hcall
        gi_wp2
        refine ⟨trivial, fun _ => by omega, ?_⟩
        refine (callsIn_wide.2 hcall).mono ?_
        rintro e w' ⟨v, rfl, rfl, hx⟩
        have hJ2 : J (idsUpto m k) w' := hJ _ _ _ none hJs (ext_grown hx) (fun r e => by cases e)
        obtain ⟨fn, tmps, assign, body, hy, hR⟩ := hY (idsUpto m k) (k : Int) w' hJ2 (by have := idsUpto_len m k; omega)
        gi_wp2
        refine ⟨fun _ => by omega, hR.mono ?_⟩
        rintro e W3 (⟨rfl, hJ3, hk3⟩ | ⟨rfl, hJx3⟩)
        · gi_wp2
          go_roundw
          case rel => exact ⟨k + 1, by simp, by omega, by have h1 := hx.size; have h2 := hk3.1; omega, hk3.2 _ (hx.cell hc), by rw [idsUpto_yes hb]; exact hJ3⟩
          case measure => simp [intOf]; omega
        · gi_wp2
          refine bodyPost_ret (results_none rfl _ _ _) rfl ?_
          exact ⟨⟨_, rfl⟩, .inr ⟨idsUpto m k ++ [(k : Int)], by rw [← idsUpto_yes hb]; exact idsUpto_pre m (k + 1) (by omega), hJx3⟩⟩
      | false =>
        rw [hb] at hcall
        gi_wp2
        refine ⟨trivial, fun _ => by omega, ?_⟩
        refine (callsIn_wide.2 hcall).mono ?_
        rintro e w' ⟨v, rfl, rfl, hx⟩
        gi_wp2
        refine ⟨fun _ h => (by cases h), ?_⟩
        gi_wp2
        go_roundw
        case rel => exact ⟨k + 1, by simp, by omega, by have h1 := hx.size; omega, hx.cell hc, by rw [idsUpto_no hb]; exact hJ _ _ _ none hJs (ext_grown hx) (fun r e => by cases e)⟩
        case measure => simp [intOf]; omega
    · have hge' : ¬ (k : Int) < 10 := by omega
      gi_wp2
      go_end0
      have e10 : k = 10 := by omega
      rw [e10] at hJs
      exact ⟨⟨_, rfl⟩, .inl hJs⟩

set_option maxHeartbeats 1000000 in
/-- committee.members: the mask is boxed; the function value captures the box -/
theorem members_in (n : Nat) (m : Int) (w : World) :
    CallsIn Fence.wide n Try.prog 69 #[.int .i64 m] w fun e w' => e = .returned (.func (.func 95) #[] #[.pointer (some ⟨w.heap.size, 0, none⟩)]) ∧ w' = w.alloc (.cells #[.int .i64 m] 22) := by
  refine callsIn_of_wp Try.func69 rfl trivial ?_ rfl
  simp only [Try.ntmps69, List.size_toArray, List.length_cons, List.length_nil, Nat.reduceAdd, Nat.reduceSub, Array.replicate_succ, Array.replicate_zero, List.push_toArray, List.append_toArray, List.nil_append, List.cons_append]
  gi_wp2
  go_ret
  exact ⟨rfl, rfl⟩
theorem members_stops (n : Nat) (hn : 2 ≤ n) (Bm : Nat) (m : Int) (w : World) (hBm : Bm < w.heap.size) (hc : w.cell? ⟨Bm, 0, none⟩ = some (.int .i64 m)) :
    SeqStopsK Fence.wide n Try.prog 95 #[.pointer (some ⟨Bm, 0, none⟩)] (fun x : Int => #[Value.int .i64 x]) (KpM Bm) (fun ys => ys = idsUpto m 10) (fun pre => pre <+: idsUpto m 10) 10 w := fun l J Jx W hW hJ _ hY h0 =>
  members1_in n hn l Bm m J Jx hY W hJ ((hW.cell (p := ⟨Bm, 0, none⟩) hBm).trans hc) h0

theorem info_int : (Try.prog.info? 3).map (fun i => (i.zero, i.size, i.bytes)) = some (some (.int .i64 0), 1, 8) := by kernel_rfl

set_option maxRecDepth 100000 in
set_option maxHeartbeats 4000000 in
theorem IDs_in (m : Int) (w : World) :
    CallsIn Fence.wide 9 Try.prog 44 #[.int .i64 m] w fun e W' => ∃ v, e = .returned v ∧ W'.ownsRow w.heap.size 3 1 v (idsUpto m 10).length ((idsUpto m 10).map (Value.int .i64)) ∧ Below w.heap.size w W' := by
  obtain ⟨i0, hi, hz0, hz1, hz2⟩ := info_parts info_int
  refine callsIn_of_wp_marks Try.func44 rfl trivial ?_ rfl
  simp only [Try.ntmps44, List.size_toArray, List.length_cons, List.length_nil, Nat.reduceAdd, Nat.reduceSub, Array.replicate_succ, Array.replicate_zero, List.push_toArray, List.append_toArray, List.nil_append, List.cons_append]
  gi_wp2
  refine ⟨trivial, (members_in 8 m _).mono ?_⟩
  rintro e w' ⟨rfl, rfl⟩
  gi_wp2
  have bO := Boxed.new w 57 (.slice none 0 0)
  have bN := Boxed.new (w.alloc (.cells #[.slice none 0 0] 57)) 22 (.int .i64 m)
  rw [World.size_alloc] at bN
  have hB0 : Below w.heap.size w ((w.alloc (.cells #[.slice none 0 0] 57)).alloc (.cells #[.int .i64 m] 22)) := ((Below.refl _ w).alloc (Nat.le_refl _) _).alloc (by simp) _
  refine wpIn_rangeFunc_ownG rfl (by omega) (gf := 95) (lb := #[.pointer (some ⟨w.heap.size + 1, 0, none⟩)]) rfl trivial (enters_of Try.func95 (by kernel_rfl) rfl)
    (members_stops 8 (by omega) (w.heap.size + 1) m _ (by simp) bN.cell) KpM.t (fun W l o o' _ h hc _ => KpM.b W l o o' h hc) (Below.refl _ _) (fun _ => rfl)
    (fun (pre : List Int) W => (∃ v, Boxed W w.heap.size 57 v ∧ W.ownsRow w.heap.size 3 1 v pre.length (pre.map (Value.int .i64)) ∧ True) ∧ Boxed W (w.heap.size + 1) 22 (.int .i64 m) ∧ Below w.heap.size w W)
    (fun _ _ _ => False)
    (OwnFrom.and (Own.from (holdsRow_own w.heap.size w.heap.size 57 3 1 (fun (pre : List Int) => pre.length) (fun pre => pre.map (Value.int .i64)) (fun _ _ => True)) _) (OwnFrom.and (Own.from (boxed_own _ _ _) _) (ownFrom_below (Nat.le_refl _) (by simp; omega))))
    (fun _ _ _ _ _ hs _ _ => hs)
    ⟨⟨_, bO.alloc _, World.ownsRow_nil _ _ _ _, trivial⟩, bN, hB0⟩
    (fun x => { tmps := #[.int .i64 m, undef, .slice none 0 0, .pointer (some ⟨w.heap.size, 0, none⟩), .int .i64 x, .int .i64 m, .func (.func 95) #[] #[.pointer (some ⟨w.heap.size + 1, 0, none⟩)], .int .i64 x, undef, undef, undef, undef, undef], defers := [] }) ?assign ?body ?done ?stop
  case assign =>
    intro l x W K hK
    gi_wp2
    exact hK
  case body =>
    rintro l pre x W ⟨⟨v, hv, hrow, _⟩, hM, hB⟩ hlt
    have hc := hv.cell
    gi_wp2_with (gi_at_builtin; refine wpListIn_append_own _ rfl _ _ 57 rfl w.heap.size 3 i0 (.int .i64 0) 1 8 Try.underlying57 hi hz0 hz1 hz2 rfl (by decide) _ _ _ rfl (hrow.alloc _) ⟨W.heap.size, 0, none⟩ 1 1 [.int .i64 x] rfl rfl (cell_one_new _ _ _) (by simp [Value.oneCell']) (by unfold maxLen; omega) (by omega) (by have := hB.size; simp; omega) ?_; intro v' w1 hown' hgrow _; obtain ⟨g', cap', rfl⟩ := ownsRow_succ hown'; obtain ⟨hv1, hv2, hr2, hk2, hb2⟩ := hv.appended (by decide) hrow hB.size (Nat.le_refl _) hown' hgrow; have hc1 := hv1.cell; have hf1 := hv1.frozen)
    have hM1 := (hM.alloc (.cells #[.int .i64 x] 3)).kept hgrow (hM.not_row (by decide) hrow)
    have hM2 := hM1.other (B' := w.heap.size) (by omega) (Value.slice (some { block := g', off := 0 }) (pre.length + 1) cap')
    exact ⟨hk2.from _, ⟨hb2.size, fun u hu => by rw [hM.cell] at hu; cases hu; exact hM2.cell⟩, ⟨_, hv2, by simpa using hr2, trivial⟩, hM2, hB.trans hb2⟩
  case done =>
    rintro D ys W hD rfl ⟨⟨v, hv, hrow, _⟩, hM, hB⟩ hK
    have hc := hv.cell
    gi_wp2
    refine ⟨by simp, .inl ⟨_, _, rfl, run_takeDeferred hK, ?_⟩⟩
    exact ⟨_, results_tmp rfl _ _ _, v, rfl, ownsRow_putObj hrow _ hK rfl, hB.trans (belowK_b (w := w) (Nat.le_refl _) W D _ _ (by simp at hD; omega) hK rfl rfl)⟩
  case stop =>
    rintro D c pre W _ _ h _
    exact h.elim

theorem flat_ints : ∀ l : List Int, l.flatMap Enc.cells = l.map (Value.int .i64)
  | [] => rfl
  | x :: l => by rw [List.flatMap_cons, flat_ints l]; rfl
theorem IDs_ok {m : Int} {w : World} : Gives Try.prog 44 #[(.int .i64 m)] w fun u w' => SlR w' u (ids_f m : List Int) ∧ Ext w w' := by
  refine Calls.mono (callsIn_wide.1 (IDs_in m w)) ?_
  rintro e w' ⟨v, rfl, hr, hB⟩
  have hO : Go.Fk.Own w' w.heap.size 3 v (ids_f m) := by
    unfold Go.Fk.Own
    rw [flat_ints]
    exact hr
  exact ⟨v, rfl, hO.slr, hB⟩
end Go.Proofs.Ytdknjfmjddlphaa

/-
  Contracts of functions of the program, each with its walk in the logic of frames. Printed by a program of this session (wip/gen) from the translation.
-/
set_option linter.unusedSimpArgs false
set_option linter.unusedVariables false
namespace Go.Proofs.Ytdknjfmjddlphaa
open Go Go.Fk

set_option maxRecDepth 100000 in
theorem supported_ok {m_c q_c : Int} {A_c : Option Addr} {c_c lo_c hi_c : Nat} {c : List Vt} {v : Vt} {fv_p : Value} {p : Vt → Bool}  {w : World} (hR_c : Rd w lo_c hi_c A_c c) (hf_p : Fits Try.prog w fv_p p) : Gives Try.prog 76 #[(.agg #[(.int .i64 m_c), (.int .i64 q_c), (.slice A_c c.length c_c)]), (Enc.val (v : Vt)), fv_p] w fun u w' => u = (.bool (supported_f m_c q_c v c p)) ∧ Ext w w' := by
  have hE : Ext w w := Ext.refl w
  have hlen_c := hR_c.len
  refine gives_of_W Try.func76 rfl Try.ntmps76 rfl ?_
  refine W.seq ?_
  refine W.region (by rfl) ?_
  refine L.step rfl (op_box (cs := [(.int .i64 m_c), (.int .i64 q_c), (.slice A_c c.length c_c)]) rfl rfl rfl) ?_
  rintro _ w1 ⟨b1, rfl, hb1, hB1, hx1⟩
  have hE := hE.trans hx1
  have hR_c := hR_c.ext hx1
  have hf_p := hf_p.ext hx1
  refine L.step rfl (op_box (cs := (Enc.cells (v : Vt))) rfl rfl rfl) ?_
  rintro _ w2 ⟨b2, rfl, hb2, hB2, hx2⟩
  have hE := hE.trans hx2
  have hR_c := hR_c.ext hx2
  have hf_p := hf_p.ext hx2
  have hB1 := hB1.ext hx2
  refine L.step rfl (op_box (cs := [fv_p]) rfl rfl (hf_p.cells)) ?_
  rintro _ w3 ⟨b3, rfl, hb3, hB3, hx3⟩
  have hE := hE.trans hx3
  have hR_c := hR_c.ext hx3
  have hf_p := hf_p.ext hx3
  have hB1 := hB1.ext hx3
  have hB2 := hB2.ext hx3
  refine L.val (v := (.bool false)) rfl (op_assign rfl rfl) ?_
  refine L.nil ?_
  refine thenF_nor ?_
  refine W.seq ?_
  refine W.seq ?_
  refine W.drawS [Sp.eq (.pointer (some ⟨b2, 5, none⟩)), Sp.eq (.int .i64 v.support), Sp.eq (.pointer (some ⟨b1, 0, none⟩)), Sp.eq (.int .i64 m_c), Sp.eq (.int .i64 (iandn v.support m_c)), Sp.eq (.bool (!decide ((iandn v.support m_c) = 0))), Sp.eq (.bool (!decide ((iandn v.support m_c) = 0))), Sp.eq (vif (!(!decide ((iandn v.support m_c) = 0))) (.pointer (some ⟨b2, 5, none⟩))), Sp.eq (vif (!(!decide ((iandn v.support m_c) = 0))) (.int .i64 v.support)), Sp.eq (vif (!(!decide ((iandn v.support m_c) = 0))) (.int .i64 (size_f v.support))), Sp.eq (vif (!(!decide ((iandn v.support m_c) = 0))) (.pointer (some ⟨b1, 1, none⟩))), Sp.eq (vif (!(!decide ((iandn v.support m_c) = 0))) (.int .i64 q_c)), Sp.eq (vif (!(!decide ((iandn v.support m_c) = 0))) (.bool (!decide ((size_f v.support) = q_c)))), Sp.eq (.bool ((!decide ((iandn v.support m_c) = 0)) || (!decide ((size_f v.support) = q_c))))] mixed (by rfl) (Obls.cons ?_ (Obls.cons ?_ (Obls.cons ?_ (Obls.cons ?_ (Obls.cons ?_ (Obls.cons ?_ (Obls.cons ?_ (Obls.cons ?_ (Obls.cons ?_ (Obls.cons ?_ (Obls.cons ?_ (Obls.cons ?_ (Obls.cons ?_ (Obls.cons ?_ Obls.nil)))))))))))))) ?_
  · intro f5 w5 hx5 ho5 hd5
    have d5_s4 : f5 4 = (.pointer (some ⟨b2, 0, none⟩)) := ho5 4 rfl
    exact D.val rfl (op_field rfl d5_s4 fo28_5 rfl)
  · intro f6 w6 hx6 ho6 hd6
    have d6_0 : f6 9 = (.pointer (some ⟨b2, 5, none⟩)) := hd6 0 rfl
    have hR_c := hR_c.ext hx6
    have hf_p := hf_p.ext hx6
    have hB1 := hB1.ext hx6
    have hB2 := hB2.ext hx6
    have hB3 := hB3.ext hx6
    exact D.val rfl (op_load1 rfl d6_0 one22 (hB2.cells.one (n := 5) rfl))
  · intro f7 w7 hx7 ho7 hd7
    have d7_s3 : f7 3 = (.pointer (some ⟨b1, 0, none⟩)) := ho7 3 rfl
    exact D.val rfl (op_field rfl d7_s3 fo68_0 rfl)
  · intro f8 w8 hx8 ho8 hd8
    have d8_2 : f8 11 = (.pointer (some ⟨b1, 0, none⟩)) := hd8 2 rfl
    have hR_c := hR_c.ext hx8
    have hf_p := hf_p.ext hx8
    have hB1 := hB1.ext hx8
    have hB2 := hB2.ext hx8
    have hB3 := hB3.ext hx8
    exact D.val rfl (op_load1 rfl d8_2 one22 (hB1.cells.one (n := 0) rfl))
  · intro f9 w9 hx9 ho9 hd9
    have d9_1 : f9 10 = (.int .i64 v.support) := hd9 1 rfl
    have d9_3 : f9 12 = (.int .i64 m_c) := hd9 3 rfl
    exact D.val rfl (op_iandn rfl d9_1 d9_3)
  · intro f10 w10 hx10 ho10 hd10
    have d10_4 : f10 13 = (.int .i64 (iandn v.support m_c)) := hd10 4 rfl
    exact D.val rfl (op_neq rfl d10_4 rfl)
  · intro f11 w11 hx11 ho11 hd11
    have d11_5 : f11 14 = (.bool (!decide ((iandn v.support m_c) = 0))) := hd11 5 rfl
    exact D.val rfl (op_move rfl d11_5)
  · intro f12 w12 hx12 ho12 hd12
    have d12_s4 : f12 4 = (.pointer (some ⟨b2, 0, none⟩)) := ho12 4 rfl
    have d12_6 : f12 15 = (.bool (!decide ((iandn v.support m_c) = 0))) := hd12 6 rfl
    exact D.guardv (wanted_no rfl rfl d12_6) (fun hg => (op_field rfl d12_s4 fo28_5 rfl))
  · intro f13 w13 hx13 ho13 hd13
    have d13_6 : f13 15 = (.bool (!decide ((iandn v.support m_c) = 0))) := hd13 6 rfl
    have d13_7 : f13 16 = (vif (!(!decide ((iandn v.support m_c) = 0))) (.pointer (some ⟨b2, 5, none⟩))) := hd13 7 rfl
    have hR_c := hR_c.ext hx13
    have hf_p := hf_p.ext hx13
    have hB1 := hB1.ext hx13
    have hB2 := hB2.ext hx13
    have hB3 := hB3.ext hx13
    exact D.guardv (wanted_no rfl rfl d13_6) (fun hg => (op_load1 rfl ((show _ = vif _ (.pointer (some ⟨b2, 5, none⟩)) from d13_7).trans (vif_t hg).symm) one22 (hB2.cells.one (n := 5) rfl)))
  · intro f14 w14 hx14 ho14 hd14
    have d14_6 : f14 15 = (.bool (!decide ((iandn v.support m_c) = 0))) := hd14 6 rfl
    have d14_8 : f14 17 = (vif (!(!decide ((iandn v.support m_c) = 0))) (.int .i64 v.support)) := hd14 8 rfl
    have hR_c := hR_c.ext hx14
    have hf_p := hf_p.ext hx14
    have hB1 := hB1.ext hx14
    have hB2 := hB2.ext hx14
    have hB3 := hB3.ext hx14
    exact D.guardc (wanted_no rfl rfl d14_6) (fun hg => (OpS.call (op_call rfl (argsC ((show _ = vif _ (.int .i64 v.support) from d14_8).trans (vif_t hg).symm) argsN) Try.func29 rfl rfl) Size_ok))
  · intro f15 w15 hx15 ho15 hd15
    have d15_s3 : f15 3 = (.pointer (some ⟨b1, 0, none⟩)) := ho15 3 rfl
    have d15_6 : f15 15 = (.bool (!decide ((iandn v.support m_c) = 0))) := hd15 6 rfl
    exact D.guardv (wanted_no rfl rfl d15_6) (fun hg => (op_field rfl d15_s3 fo68_1 rfl))
  · intro f16 w16 hx16 ho16 hd16
    have d16_6 : f16 15 = (.bool (!decide ((iandn v.support m_c) = 0))) := hd16 6 rfl
    have d16_10 : f16 19 = (vif (!(!decide ((iandn v.support m_c) = 0))) (.pointer (some ⟨b1, 1, none⟩))) := hd16 10 rfl
    have hR_c := hR_c.ext hx16
    have hf_p := hf_p.ext hx16
    have hB1 := hB1.ext hx16
    have hB2 := hB2.ext hx16
    have hB3 := hB3.ext hx16
    exact D.guardv (wanted_no rfl rfl d16_6) (fun hg => (op_load1 rfl ((show _ = vif _ (.pointer (some ⟨b1, 1, none⟩)) from d16_10).trans (vif_t hg).symm) one3 (hB1.cells.one (n := 1) rfl)))
  · intro f17 w17 hx17 ho17 hd17
    have d17_6 : f17 15 = (.bool (!decide ((iandn v.support m_c) = 0))) := hd17 6 rfl
    have d17_9 : f17 18 = (vif (!(!decide ((iandn v.support m_c) = 0))) (.int .i64 (size_f v.support))) := hd17 9 rfl
    have d17_11 : f17 20 = (vif (!(!decide ((iandn v.support m_c) = 0))) (.int .i64 q_c)) := hd17 11 rfl
    exact D.guardv (wanted_no rfl rfl d17_6) (fun hg => (op_neq rfl ((show _ = vif _ (.int .i64 (size_f v.support)) from d17_9).trans (vif_t hg).symm) ((show _ = vif _ (.int .i64 q_c) from d17_11).trans (vif_t hg).symm)))
  · intro f18 w18 hx18 ho18 hd18
    have d18_6 : f18 15 = (.bool (!decide ((iandn v.support m_c) = 0))) := hd18 6 rfl
    have d18_12 : f18 21 = (vif (!(!decide ((iandn v.support m_c) = 0))) (.bool (!decide ((size_f v.support) = q_c)))) := hd18 12 rfl
    exact D.val rfl (op_or rfl d18_6 rfl d18_12)
  intro f19 w19 hx19 ho19 hr19
  have s0 : f19 0 = (.agg #[(.int .i64 m_c), (.int .i64 q_c), (.slice A_c c.length c_c)]) := ho19 0 rfl
  have s1 : f19 1 = (Enc.val (v : Vt)) := ho19 1 rfl
  have s2 : f19 2 = fv_p := ho19 2 rfl
  have s3 : f19 3 = (.pointer (some ⟨b1, 0, none⟩)) := ho19 3 rfl
  have s4 : f19 4 = (.pointer (some ⟨b2, 0, none⟩)) := ho19 4 rfl
  have s5 : f19 5 = (.pointer (some ⟨b3, 0, none⟩)) := ho19 5 rfl
  have s6 : f19 6 = (.bool false) := ho19 6 rfl
  have s22 : f19 22 = (.bool ((!decide ((iandn v.support m_c) = 0)) || (!decide ((size_f v.support) = q_c)))) := hr19 13 (by decide)
  have hE := hE.trans hx19
  have hR_c := hR_c.ext hx19
  have hf_p := hf_p.ext hx19
  have hB1 := hB1.ext hx19
  have hB2 := hB2.ext hx19
  have hB3 := hB3.ext hx19
  refine thenF_nor ?_
  refine W.cond (t := (!decide ((iandn v.support m_c) = 0)) || (!decide ((size_f v.support) = q_c))) s22 (fun hc20 => ?_) (fun hc20 => ?_)
  · have hp20 := hc20
    simp only [Bool.and_eq_true, Bool.or_eq_true, Bool.and_eq_false_iff, Bool.or_eq_false_iff, Bool.not_eq_true', Bool.not_eq_false', decide_eq_true_eq, decide_eq_false_iff_not] at hp20
    have hres : supported_f m_c q_c v c p = false := by unfold supported_f; rw [hc20]; rfl
    refine W.seq ?_
    refine W.region (by rfl) ?_
    refine L.val (v := (.bool false)) rfl (op_assign rfl rfl) ?_
    refine L.nil ?_
    refine thenF_nor ?_
    refine W.ret ?_
    refine thenF_ret ?_
    exact end_ret1 (v := (.bool false)) rfl rfl ⟨(by rw [hres]), hE⟩
  · have hp20 := hc20
    simp only [Bool.and_eq_true, Bool.or_eq_true, Bool.and_eq_false_iff, Bool.or_eq_false_iff, Bool.not_eq_true', Bool.not_eq_false', decide_eq_true_eq, decide_eq_false_iff_not] at hp20
    have hgo : supported_f m_c q_c v c p = (ids_f v.support).all (fun i => c.any fun x => supported1_f x i p) := by unfold supported_f; rw [hc20]; rfl
    refine W.skip ?_
    refine thenF_nor ?_
    refine W.seq ?_
    refine W.seq ?_
    refine W.region (by rfl) ?_
    refine L.val rfl (op_field rfl s4 fo28_5 rfl) ?_
    refine L.val rfl (op_load1 rfl rfl one22 (hB2.cells.one (n := 5) rfl)) ?_
    refine L.step rfl (OpS.call (op_call rfl (argsC rfl argsN) Try.func44 rfl rfl) IDs_ok) ?_
    rintro _ w21 ⟨⟨A21, c21, lo21, hi21, rfl, hcap21, hR21⟩, hx21⟩
    have hE := hE.trans hx21
    have hR_c := hR_c.ext hx21
    have hf_p := hf_p.ext hx21
    have hB1 := hB1.ext hx21
    have hB2 := hB2.ext hx21
    have hB3 := hB3.ext hx21
    have hlen21 := hR21.len
    refine L.val rfl (op_len rfl rfl ln57) ?_
    refine L.val rfl (op_move rfl rfl) ?_
    refine L.nil ?_
    refine thenF_nor ?_
    refine W.block ?_
    have S22_hR_c := hR_c
    have S22_hf_p := hf_p
    have S22_hB1 := hB1
    have S22_hB2 := hB2
    have S22_hB3 := hB3
    have S22_hR21 := hR21
    have S22_hE := hE
    have hS22 : Ext w21 w21 := Ext.refl _
    refine W.loopg (γ := Nat) (fun (k : Nat) (f : Fr) (ww : World) => k ≤ (ids_f v.support).length ∧ ((ids_f v.support).drop k).all (fun i => c.any fun x => supported1_f x i p) = (ids_f v.support).all (fun i => c.any fun x => supported1_f x i p) ∧ f 3 = (.pointer (some ⟨b1, 0, none⟩)) ∧ f 5 = (.pointer (some ⟨b3, 0, none⟩)) ∧ f 25 = (.slice A21 (ids_f v.support).length c21) ∧ f 26 = (.int .i64 ((ids_f v.support).length : Int)) ∧ f 27 = (.int .i64 ((k : Nat) : Int)) ∧ Ext w21 ww) (fun (k : Nat) => (ids_f v.support).length - k) 0 ⟨(by (try dsimp only); omega), rfl, s3, s5, rfl, rfl, rfl, hS22⟩ ?_
    rintro k f23 w23 ⟨hk, hall, s23_3, s23_5, s23_25, s23_26, s23_27, hS22⟩
    have hR_c := S22_hR_c.ext hS22
    have hf_p := S22_hf_p.ext hS22
    have hB1 := S22_hB1.ext hS22
    have hB2 := S22_hB2.ext hS22
    have hB3 := S22_hB3.ext hS22
    have hR21 := S22_hR21.ext hS22
    have hE := S22_hE.trans hS22
    refine W.seq ?_
    refine W.region (by rfl) ?_
    refine L.val rfl (op_lss rfl s23_27 s23_26) ?_
    refine L.nil ?_
    refine thenF_nor ?_
    refine W.seq ?_
    refine W.cond (t := decide (((k : Nat) : Int) < ((ids_f v.support).length : Int))) rfl (fun hc24 => ?_) (fun hc24 => ?_)
    · have hp24 := hc24
      simp only [Bool.and_eq_true, Bool.or_eq_true, Bool.and_eq_false_iff, Bool.or_eq_false_iff, Bool.not_eq_true', Bool.not_eq_false', decide_eq_true_eq, decide_eq_false_iff_not] at hp24
      refine W.skip ?_
      refine thenF_nor ?_
      refine W.seq ?_
      refine W.block ?_
      refine W.seq ?_
      refine W.region (by rfl) ?_
      refine L.val rfl (op_index (k := k) rfl s23_25 s23_27 sl57 (hR21.getA (get_bang (l := ids_f v.support) (k := k) (by omega))).1 rfl (by omega) rfl) ?_
      refine L.val rfl (op_load1 rfl rfl one3 ((hR21.getA (get_bang (l := ids_f v.support) (k := k) (by omega))).2.one (n := 0) rfl)) ?_
      refine L.newvar (v := (.int .i64 ((ids_f v.support)[k]!))) (cs := (Enc.cells ((ids_f v.support)[k]! : Int))) rfl rfl rfl rfl rfl rfl (fun _ => rfl) rfl si3 zs3 (Enc.one _) ?_
      intro b25 w25 hb25 hB25 hx25
      have hbb25_hE := Nat.le_trans hE.size hb25
      have hbb25_hS22 := Nat.le_trans hS22.size hb25
      have hE := hE.trans hx25
      have hS22 := hS22.trans hx25
      have hR_c := hR_c.ext hx25
      have hf_p := hf_p.ext hx25
      have hB1 := hB1.ext hx25
      have hB2 := hB2.ext hx25
      have hB3 := hB3.ext hx25
      have hR21 := hR21.ext hx25
      refine L.nil ?_
      refine thenF_nor ?_
      refine W.seq ?_
      refine W.region (by rfl) ?_
      refine L.val rfl (op_loadcs (cs := [(.int .i64 m_c), (.int .i64 q_c), (.slice A_c c.length c_c)]) rfl s23_3 ag68 si68 hB1.cells) ?_
      refine L.val rfl (op_func rfl (argsC rfl (argsC s23_5 argsN))) ?_
      refine L.call (v := (.bool (c.any (fun xx => supported1_f xx ((ids_f v.support)[k]!) (p))))) rfl (OpS.call (op_call rfl (argsC rfl (argsC rfl argsN)) Try.func55 rfl rfl) (has_ok hR_c (⟨_, [(.pointer (some ⟨b25, 0, none⟩)), (.pointer (some ⟨b3, 0, none⟩))], _, rfl, Try.func102, rfl, rfl, fun xx ww hxx => (supported1_ok (hB25.cells.ext hxx) (hB3.cells.ext hxx) (hf_p.ext hxx))⟩ : Fits _ _ _ (fun xx => supported1_f xx ((ids_f v.support)[k]!) (p))))) ?_
      intro w26 hx26
      have hE := hE.trans hx26
      have hS22 := hS22.trans hx26
      have hR_c := hR_c.ext hx26
      have hf_p := hf_p.ext hx26
      have hB1 := hB1.ext hx26
      have hB2 := hB2.ext hx26
      have hB3 := hB3.ext hx26
      have hR21 := hR21.ext hx26
      have hB25 := hB25.ext hx26
      refine L.val rfl (op_not rfl rfl) ?_
      refine L.nil ?_
      refine thenF_nor ?_
      refine W.cond (t := !(c.any (fun xx => supported1_f xx ((ids_f v.support)[k]!) (p)))) rfl (fun hc27 => ?_) (fun hc27 => ?_)
      · have hp27 := hc27
        simp only [Bool.and_eq_true, Bool.or_eq_true, Bool.and_eq_false_iff, Bool.or_eq_false_iff, Bool.not_eq_true', Bool.not_eq_false', decide_eq_true_eq, decide_eq_false_iff_not] at hp27
        have hno := hc27
        simp only [Bool.not_eq_true'] at hno
        have hres : supported_f m_c q_c v c p = false := hgo.trans (all_no hall (by omega) hno).symm
        refine W.seq ?_
        refine W.region (by rfl) ?_
        refine L.val (v := (.bool false)) rfl (op_assign rfl rfl) ?_
        refine L.nil ?_
        refine thenF_nor ?_
        refine W.ret ?_
        refine blockF_ret ?_
        refine thenF_ret ?_
        refine thenF_ret ?_
        refine blockF_ret ?_
        refine thenF_ret ?_
        exact end_ret1 (v := (.bool false)) rfl rfl ⟨(by rw [hres]), hE⟩
      · have hp27 := hc27
        simp only [Bool.and_eq_true, Bool.or_eq_true, Bool.and_eq_false_iff, Bool.or_eq_false_iff, Bool.not_eq_true', Bool.not_eq_false', decide_eq_true_eq, decide_eq_false_iff_not] at hp27
        have hyes := hc27
        simp only [Bool.not_eq_false'] at hyes
        refine W.skip ?_
        refine blockF_nor ?_
        refine thenF_nor ?_
        refine W.region (by rfl) ?_
        refine L.val rfl (op_add (c := ((k + 1 : Nat) : Int)) rfl s23_27 rfl (by omega) (by omega)) ?_
        refine L.val rfl (op_move rfl rfl) ?_
        refine L.nil ?_
        refine thenF_nor ?_
        exact ⟨k + 1, ⟨(by (try dsimp only); omega), (all_go hall (by omega) hyes), s23_3, s23_5, s23_25, s23_26, rfl, hS22⟩, (by (try dsimp only); omega)⟩
    · have hp24 := hc24
      simp only [Bool.and_eq_true, Bool.or_eq_true, Bool.and_eq_false_iff, Bool.or_eq_false_iff, Bool.not_eq_true', Bool.not_eq_false', decide_eq_true_eq, decide_eq_false_iff_not] at hp24
      have hres : supported_f m_c q_c v c p = true := hgo.trans (all_end hall (by omega)).symm
      refine W.exit ?_
      refine thenF_exit ?_
      refine thenF_exit ?_
      refine blockF_hit ?_
      refine thenF_nor ?_
      refine W.seq ?_
      refine W.region (by rfl) ?_
      refine L.val (v := (.bool true)) rfl (op_assign rfl rfl) ?_
      refine L.nil ?_
      refine thenF_nor ?_
      refine W.ret ?_
      exact end_ret1 (v := (.bool true)) rfl rfl ⟨(by rw [hres]), hE⟩

def prevote_f (m_c : Int) (q_c : Int) (c : List Vt) (v : Vt) : Bool := bif decide (v.round = 1) then (decide (v.choice = 0)) || (supported_f m_c q_c v c (fun xx => prevote1_f xx v)) else (bif (supported_f m_c q_c v c (fun xx => prevote4_f xx (fun xx => prevote2_f xx v) (fun xx => prevote3_f xx v))) && (c.any (fun xx => prevote5_f xx v (fun xx => prevote2_f xx v))) then true else (supported_f m_c q_c v c (fun xx => prevote3_f xx v)) && (c.any (fun xx => prevote6_f xx v)))
set_option maxRecDepth 100000 in
theorem prevote_ok {m_c q_c : Int} {A_c : Option Addr} {c_c lo_c hi_c : Nat} {c : List Vt} {v : Vt}  {w : World} (hR_c : Rd w lo_c hi_c A_c c) (h0 : 0 ≤ v.round) (h1 : v.round ≤ 100) : Gives Try.prog 58 #[(.agg #[(.int .i64 m_c), (.int .i64 q_c), (.slice A_c c.length c_c)]), (Enc.val (v : Vt))] w fun u w' => u = (.bool (prevote_f m_c q_c c v)) ∧ Ext w w' := by
  have hE : Ext w w := Ext.refl w
  have hlen_c := hR_c.len
  refine gives_of_W Try.func58 rfl Try.ntmps58 rfl ?_
  refine W.seq ?_
  refine W.region (by rfl) ?_
  refine L.step rfl (op_box (cs := [(.int .i64 m_c), (.int .i64 q_c), (.slice A_c c.length c_c)]) rfl rfl rfl) ?_
  rintro _ w1 ⟨b1, rfl, hb1, hB1, hx1⟩
  have hE := hE.trans hx1
  have hR_c := hR_c.ext hx1
  refine L.step rfl (op_box (cs := (Enc.cells (v : Vt))) rfl rfl rfl) ?_
  rintro _ w2 ⟨b2, rfl, hb2, hB2, hx2⟩
  have hE := hE.trans hx2
  have hR_c := hR_c.ext hx2
  have hB1 := hB1.ext hx2
  refine L.val (v := (.bool false)) rfl (op_assign rfl rfl) ?_
  refine L.nil ?_
  refine thenF_nor ?_
  refine W.seq ?_
  refine W.seq ?_
  refine W.region (by rfl) ?_
  refine L.val rfl (op_field rfl rfl fo28_2 rfl) ?_
  refine L.val rfl (op_load1 rfl rfl one3 (hB2.cells.one (n := 2) rfl)) ?_
  refine L.val rfl (op_eql rfl rfl rfl) ?_
  refine L.nil ?_
  refine thenF_nor ?_
  refine W.cond (t := decide (v.round = 1)) rfl (fun hc3 => ?_) (fun hc3 => ?_)
  · have hp3 := hc3
    simp only [Bool.and_eq_true, Bool.or_eq_true, Bool.and_eq_false_iff, Bool.or_eq_false_iff, Bool.not_eq_true', Bool.not_eq_false', decide_eq_true_eq, decide_eq_false_iff_not] at hp3
    refine W.seq ?_
    refine W.region (by rfl) ?_
    refine L.val rfl (op_field rfl rfl fo28_3 rfl) ?_
    refine L.val rfl (op_load1 rfl rfl one3 (hB2.cells.one (n := 3) rfl)) ?_
    refine L.val rfl (op_eql rfl rfl rfl) ?_
    refine L.val rfl (op_move rfl rfl) ?_
    refine L.guardv (v := (.agg #[(.int .i64 m_c), (.int .i64 q_c), (.slice A_c c.length c_c)])) (wanted_no rfl rfl rfl) (fun hg => (op_loadcs (cs := [(.int .i64 m_c), (.int .i64 q_c), (.slice A_c c.length c_c)]) rfl rfl ag68 si68 hB1.cells)) ?_
    refine L.guardv (v := (Enc.val (v : Vt))) (wanted_no rfl rfl rfl) (fun hg => (op_load (v := (v : Vt)) rfl rfl ty28 hB2.cells)) ?_
    refine L.guardv (v := (.func (.func 77) #[] #[(.pointer (some ⟨b2, 0, none⟩))])) (wanted_no rfl rfl rfl) (fun hg => (op_func rfl (argsC rfl argsN))) ?_
    refine L.guardc (v := (.bool (supported_f m_c q_c v c (fun xx => prevote1_f xx v)))) (wanted_no rfl rfl rfl) (fun hg => (OpS.call (op_call rfl (argsC ((show _ = vif _ (.agg #[(.int .i64 m_c), (.int .i64 q_c), (.slice A_c c.length c_c)]) from rfl).trans (vif_t hg).symm) (argsC ((show _ = vif _ (Enc.val (v : Vt)) from rfl).trans (vif_t hg).symm) (argsC ((show _ = vif _ (.func (.func 77) #[] #[(.pointer (some ⟨b2, 0, none⟩))]) from rfl).trans (vif_t hg).symm) argsN))) Try.func76 rfl rfl) (supported_ok hR_c (⟨_, [(.pointer (some ⟨b2, 0, none⟩))], _, rfl, Try.func77, rfl, rfl, fun xx ww hxx => (prevote1_ok (hB2.cells.ext hxx))⟩ : Fits _ _ _ (fun xx => prevote1_f xx v))))) ?_
    intro w4 hx4
    have hE := hE.trans hx4
    have hR_c := hR_c.ext hx4
    have hB1 := hB1.ext hx4
    have hB2 := hB2.ext hx4
    refine L.val rfl (op_or rfl rfl rfl rfl) ?_
    refine L.val rfl (op_assign rfl rfl) ?_
    refine L.nil ?_
    refine thenF_nor ?_
    refine W.ret ?_
    refine thenF_ret ?_
    exact end_ret1 (v := (.bool ((decide (v.choice = 0)) || (supported_f m_c q_c v c (fun xx => prevote1_f xx v))))) rfl rfl ⟨by simp only [prevote_f, hc3, cond_true], hE⟩
  · have hp3 := hc3
    simp only [Bool.and_eq_true, Bool.or_eq_true, Bool.and_eq_false_iff, Bool.or_eq_false_iff, Bool.not_eq_true', Bool.not_eq_false', decide_eq_true_eq, decide_eq_false_iff_not] at hp3
    refine W.skip ?_
    refine thenF_nor ?_
    refine W.seq ?_
    refine W.region (by rfl) ?_
    refine L.val rfl (op_func rfl (argsC rfl argsN)) ?_
    refine L.newvar (v := (.func (.func 78) #[] #[(.pointer (some ⟨b2, 0, none⟩))])) (cs := [(.func (.func 78) #[] #[(.pointer (some ⟨b2, 0, none⟩))])]) rfl rfl rfl rfl rfl rfl (fun _ => rfl) rfl si65 zs65 (by intro u hu; simp at hu; subst hu; rfl) ?_
    intro b5 w5 hb5 hB5 hx5
    have hbb5_hE := Nat.le_trans hE.size hb5
    have hE := hE.trans hx5
    have hR_c := hR_c.ext hx5
    have hB1 := hB1.ext hx5
    have hB2 := hB2.ext hx5
    refine L.nil ?_
    refine thenF_nor ?_
    refine W.seq ?_
    refine W.region (by rfl) ?_
    refine L.val rfl (op_func rfl (argsC rfl argsN)) ?_
    refine L.newvar (v := (.func (.func 79) #[] #[(.pointer (some ⟨b2, 0, none⟩))])) (cs := [(.func (.func 79) #[] #[(.pointer (some ⟨b2, 0, none⟩))])]) rfl rfl rfl rfl rfl rfl (fun _ => rfl) rfl si65 zs65 (by intro u hu; simp at hu; subst hu; rfl) ?_
    intro b6 w6 hb6 hB6 hx6
    have hbb6_hE := Nat.le_trans hE.size hb6
    have hE := hE.trans hx6
    have hR_c := hR_c.ext hx6
    have hB1 := hB1.ext hx6
    have hB2 := hB2.ext hx6
    have hB5 := hB5.ext hx6
    refine L.nil ?_
    refine thenF_nor ?_
    refine W.seq ?_
    refine W.region (by rfl) ?_
    refine L.val rfl (op_func rfl (argsC rfl (argsC rfl argsN))) ?_
    refine L.val rfl (op_assign rfl rfl) ?_
    refine L.nil ?_
    refine thenF_nor ?_
    refine W.seq ?_
    refine W.seq ?_
    refine W.region (by rfl) ?_
    refine L.val rfl (op_loadcs (cs := [(.int .i64 m_c), (.int .i64 q_c), (.slice A_c c.length c_c)]) rfl rfl ag68 si68 hB1.cells) ?_
    refine L.val rfl (op_load (v := (v : Vt)) rfl rfl ty28 hB2.cells) ?_
    refine L.val rfl (op_move rfl rfl) ?_
    refine L.call (v := (.bool (supported_f m_c q_c v c (fun xx => prevote4_f xx (fun xx => prevote2_f xx v) (fun xx => prevote3_f xx v))))) rfl (OpS.call (op_call rfl (argsC rfl (argsC rfl (argsC rfl argsN))) Try.func76 rfl rfl) (supported_ok hR_c (⟨_, [(.pointer (some ⟨b5, 0, none⟩)), (.pointer (some ⟨b6, 0, none⟩))], _, rfl, Try.func80, rfl, rfl, fun xx ww hxx => (prevote4_ok (hB5.cells.ext hxx) (Fits.ext ((⟨_, [(.pointer (some ⟨b2, 0, none⟩))], _, rfl, Try.func78, rfl, rfl, fun xx ww hxx => (prevote2_ok (hB2.cells.ext hxx) (by first | omega | (simp only [List.length_drop, List.length_take, List.length_append, List.length_cons, List.length_nil] at *; omega)) (by first | omega | (simp only [List.length_drop, List.length_take, List.length_append, List.length_cons, List.length_nil] at *; omega)))⟩ : Fits _ _ _ (fun xx => prevote2_f xx v))) hxx) (hB6.cells.ext hxx) (Fits.ext ((⟨_, [(.pointer (some ⟨b2, 0, none⟩))], _, rfl, Try.func79, rfl, rfl, fun xx ww hxx => (prevote3_ok (hB2.cells.ext hxx) (by first | omega | (simp only [List.length_drop, List.length_take, List.length_append, List.length_cons, List.length_nil] at *; omega)) (by first | omega | (simp only [List.length_drop, List.length_take, List.length_append, List.length_cons, List.length_nil] at *; omega)))⟩ : Fits _ _ _ (fun xx => prevote3_f xx v))) hxx))⟩ : Fits _ _ _ (fun xx => prevote4_f xx (fun xx => prevote2_f xx v) (fun xx => prevote3_f xx v))))) ?_
    intro w7 hx7
    have hE := hE.trans hx7
    have hR_c := hR_c.ext hx7
    have hB1 := hB1.ext hx7
    have hB2 := hB2.ext hx7
    have hB5 := hB5.ext hx7
    have hB6 := hB6.ext hx7
    refine L.val rfl (op_move rfl rfl) ?_
    refine L.guardv (v := (.agg #[(.int .i64 m_c), (.int .i64 q_c), (.slice A_c c.length c_c)])) (wanted_yes rfl rfl rfl) (fun hg => (op_loadcs (cs := [(.int .i64 m_c), (.int .i64 q_c), (.slice A_c c.length c_c)]) rfl rfl ag68 si68 hB1.cells)) ?_
    refine L.guardv (v := (.func (.func 81) #[] #[(.pointer (some ⟨b2, 0, none⟩)), (.pointer (some ⟨b5, 0, none⟩))])) (wanted_yes rfl rfl rfl) (fun hg => (op_func rfl (argsC rfl (argsC rfl argsN)))) ?_
    refine L.guardc (v := (.bool (c.any (fun xx => prevote5_f xx v (fun xx => prevote2_f xx v))))) (wanted_yes rfl rfl rfl) (fun hg => (OpS.call (op_call rfl (argsC ((show _ = vif _ (.agg #[(.int .i64 m_c), (.int .i64 q_c), (.slice A_c c.length c_c)]) from rfl).trans (vif_t hg).symm) (argsC ((show _ = vif _ (.func (.func 81) #[] #[(.pointer (some ⟨b2, 0, none⟩)), (.pointer (some ⟨b5, 0, none⟩))]) from rfl).trans (vif_t hg).symm) argsN)) Try.func55 rfl rfl) (has_ok hR_c (⟨_, [(.pointer (some ⟨b2, 0, none⟩)), (.pointer (some ⟨b5, 0, none⟩))], _, rfl, Try.func81, rfl, rfl, fun xx ww hxx => (prevote5_ok (hB2.cells.ext hxx) (hB5.cells.ext hxx) (Fits.ext ((⟨_, [(.pointer (some ⟨b2, 0, none⟩))], _, rfl, Try.func78, rfl, rfl, fun xx ww hxx => (prevote2_ok (hB2.cells.ext hxx) (by first | omega | (simp only [List.length_drop, List.length_take, List.length_append, List.length_cons, List.length_nil] at *; omega)) (by first | omega | (simp only [List.length_drop, List.length_take, List.length_append, List.length_cons, List.length_nil] at *; omega)))⟩ : Fits _ _ _ (fun xx => prevote2_f xx v))) hxx))⟩ : Fits _ _ _ (fun xx => prevote5_f xx v (fun xx => prevote2_f xx v)))))) ?_
    intro w8 hx8
    have hE := hE.trans hx8
    have hR_c := hR_c.ext hx8
    have hB1 := hB1.ext hx8
    have hB2 := hB2.ext hx8
    have hB5 := hB5.ext hx8
    have hB6 := hB6.ext hx8
    refine L.val rfl (op_and rfl rfl rfl rfl) ?_
    refine L.nil ?_
    refine thenF_nor ?_
    refine W.cond (t := (supported_f m_c q_c v c (fun xx => prevote4_f xx (fun xx => prevote2_f xx v) (fun xx => prevote3_f xx v))) && (c.any (fun xx => prevote5_f xx v (fun xx => prevote2_f xx v)))) rfl (fun hc9 => ?_) (fun hc9 => ?_)
    · have hp9 := hc9
      simp only [Bool.and_eq_true, Bool.or_eq_true, Bool.and_eq_false_iff, Bool.or_eq_false_iff, Bool.not_eq_true', Bool.not_eq_false', decide_eq_true_eq, decide_eq_false_iff_not] at hp9
      refine W.seq ?_
      refine W.region (by rfl) ?_
      refine L.val (v := (.bool true)) rfl (op_assign rfl rfl) ?_
      refine L.nil ?_
      refine thenF_nor ?_
      refine W.ret ?_
      refine thenF_ret ?_
      exact end_ret1 (v := (.bool true)) rfl rfl ⟨by simp only [prevote_f, hc3, hc9, cond_true, cond_false], hE⟩
    · have hp9 := hc9
      simp only [Bool.and_eq_true, Bool.or_eq_true, Bool.and_eq_false_iff, Bool.or_eq_false_iff, Bool.not_eq_true', Bool.not_eq_false', decide_eq_true_eq, decide_eq_false_iff_not] at hp9
      refine W.skip ?_
      refine thenF_nor ?_
      refine W.seq ?_
      refine W.region (by rfl) ?_
      refine L.val rfl (op_loadcs (cs := [(.int .i64 m_c), (.int .i64 q_c), (.slice A_c c.length c_c)]) rfl rfl ag68 si68 hB1.cells) ?_
      refine L.val rfl (op_load (v := (v : Vt)) rfl rfl ty28 hB2.cells) ?_
      refine L.val rfl (op_load1 rfl rfl one65 (hB6.cells.one (n := 0) rfl)) ?_
      refine L.call (v := (.bool (supported_f m_c q_c v c (fun xx => prevote3_f xx v)))) rfl (OpS.call (op_call rfl (argsC rfl (argsC rfl (argsC rfl argsN))) Try.func76 rfl rfl) (supported_ok hR_c (⟨_, [(.pointer (some ⟨b2, 0, none⟩))], _, rfl, Try.func79, rfl, rfl, fun xx ww hxx => (prevote3_ok (hB2.cells.ext hxx) (by first | omega | (simp only [List.length_drop, List.length_take, List.length_append, List.length_cons, List.length_nil] at *; omega)) (by first | omega | (simp only [List.length_drop, List.length_take, List.length_append, List.length_cons, List.length_nil] at *; omega)))⟩ : Fits _ _ _ (fun xx => prevote3_f xx v)))) ?_
      intro w10 hx10
      have hE := hE.trans hx10
      have hR_c := hR_c.ext hx10
      have hB1 := hB1.ext hx10
      have hB2 := hB2.ext hx10
      have hB5 := hB5.ext hx10
      have hB6 := hB6.ext hx10
      refine L.val rfl (op_move rfl rfl) ?_
      refine L.guardv (v := (.agg #[(.int .i64 m_c), (.int .i64 q_c), (.slice A_c c.length c_c)])) (wanted_yes rfl rfl rfl) (fun hg => (op_loadcs (cs := [(.int .i64 m_c), (.int .i64 q_c), (.slice A_c c.length c_c)]) rfl rfl ag68 si68 hB1.cells)) ?_
      refine L.guardv (v := (.func (.func 82) #[] #[(.pointer (some ⟨b2, 0, none⟩))])) (wanted_yes rfl rfl rfl) (fun hg => (op_func rfl (argsC rfl argsN))) ?_
      refine L.guardc (v := (.bool (c.any (fun xx => prevote6_f xx v)))) (wanted_yes rfl rfl rfl) (fun hg => (OpS.call (op_call rfl (argsC ((show _ = vif _ (.agg #[(.int .i64 m_c), (.int .i64 q_c), (.slice A_c c.length c_c)]) from rfl).trans (vif_t hg).symm) (argsC ((show _ = vif _ (.func (.func 82) #[] #[(.pointer (some ⟨b2, 0, none⟩))]) from rfl).trans (vif_t hg).symm) argsN)) Try.func55 rfl rfl) (has_ok hR_c (⟨_, [(.pointer (some ⟨b2, 0, none⟩))], _, rfl, Try.func82, rfl, rfl, fun xx ww hxx => (prevote6_ok (hB2.cells.ext hxx) (by first | omega | (simp only [List.length_drop, List.length_take, List.length_append, List.length_cons, List.length_nil] at *; omega)) (by first | omega | (simp only [List.length_drop, List.length_take, List.length_append, List.length_cons, List.length_nil] at *; omega)))⟩ : Fits _ _ _ (fun xx => prevote6_f xx v))))) ?_
      intro w11 hx11
      have hE := hE.trans hx11
      have hR_c := hR_c.ext hx11
      have hB1 := hB1.ext hx11
      have hB2 := hB2.ext hx11
      have hB5 := hB5.ext hx11
      have hB6 := hB6.ext hx11
      refine L.val rfl (op_and rfl rfl rfl rfl) ?_
      refine L.val rfl (op_assign rfl rfl) ?_
      refine L.nil ?_
      refine thenF_nor ?_
      refine W.ret ?_
      exact end_ret1 (v := (.bool ((supported_f m_c q_c v c (fun xx => prevote3_f xx v)) && (c.any (fun xx => prevote6_f xx v))))) rfl rfl ⟨by simp only [prevote_f, hc3, hc9, cond_false], hE⟩

def precommit3s_f (x : Vt) (pa : Vt → Bool) (v : Vt) (y : Vt) : Bool := bif (!(pa x)) || (!(has_f v.support x.signer)) then false else !(same_f y x)
set_option maxRecDepth 100000 in
theorem precommit3s_ok {x : Vt} {q_pa : Addr} {fv_pa : Value} {pa : Vt → Bool} {p_v : Addr} {v : Vt} {bf b_y : Nat} {y : Vt}  {w : World} (hq_pa : Cells w q_pa [fv_pa]) (hf_pa : Fits Try.prog w fv_pa pa) (hp_v : Cells w p_v (Enc.cells v)) (hfst : Box w bf 95 [.pointer (some ⟨b_y, 0, none⟩)]) (hby : Box w b_y 28 (Enc.cells y)) : Gives Try.prog 85 #[(Enc.val (x : Vt)), (.pointer (some q_pa)), (.pointer (some p_v)), (.pointer (some ⟨bf, 0, none⟩))] w fun u w' => u = (.bool (precommit3s_f x pa v y)) ∧ Ext w w' := by
  have hE : Ext w w := Ext.refl w
  refine gives_of_W Try.func85 rfl Try.ntmps85 rfl ?_
  refine W.seq ?_
  refine W.region (by rfl) ?_
  refine L.step rfl (op_box (cs := (Enc.cells (x : Vt))) rfl rfl rfl) ?_
  rintro _ w1 ⟨b1, rfl, hb1, hB1, hx1⟩
  have hE := hE.trans hx1
  have hq_pa := hq_pa.ext hx1
  have hf_pa := hf_pa.ext hx1
  have hp_v := hp_v.ext hx1
  have hfst := hfst.ext hx1
  have hby := hby.ext hx1
  refine L.val (v := (.bool false)) rfl (op_assign rfl rfl) ?_
  refine L.nil ?_
  refine thenF_nor ?_
  refine W.seq ?_
  refine W.seq ?_
  refine W.region (by rfl) ?_
  refine L.val rfl (op_load1 rfl rfl one65 (hq_pa.one (n := 0) rfl)) ?_
  refine L.val rfl (op_load (v := (x : Vt)) rfl rfl ty28 hB1.cells) ?_
  refine L.call (v := (.bool (pa x))) rfl (op_fits (a := (x : Vt)) hf_pa rfl rfl rfl) ?_
  intro w2 hx2
  have hE := hE.trans hx2
  have hq_pa := hq_pa.ext hx2
  have hf_pa := hf_pa.ext hx2
  have hp_v := hp_v.ext hx2
  have hfst := hfst.ext hx2
  have hby := hby.ext hx2
  have hB1 := hB1.ext hx2
  refine L.val rfl (op_not rfl rfl) ?_
  refine L.val rfl (op_move rfl rfl) ?_
  refine L.guardv (v := (.pointer (some (p_v.add 5)))) (wanted_no rfl rfl rfl) (fun hg => (op_field rfl rfl fo28_5 rfl)) ?_
  refine L.guardv (v := (.int .i64 v.support)) (wanted_no rfl rfl rfl) (fun hg => (op_load1 rfl ((show _ = vif _ (.pointer (some (p_v.add 5))) from rfl).trans (vif_t hg).symm) one22 (hp_v.one (n := 5) rfl))) ?_
  refine L.guardv (v := (.pointer (some ⟨b1, 4, none⟩))) (wanted_no rfl rfl rfl) (fun hg => (op_field rfl rfl fo28_4 rfl)) ?_
  refine L.guardv (v := (.int .i64 x.signer)) (wanted_no rfl rfl rfl) (fun hg => (op_load1 rfl ((show _ = vif _ (.pointer (some ⟨b1, 4, none⟩)) from rfl).trans (vif_t hg).symm) one3 (hB1.cells.one (n := 4) rfl))) ?_
  refine L.guardc (v := (.bool (has_f v.support x.signer))) (wanted_no rfl rfl rfl) (fun hg => (OpS.call (op_call rfl (argsC ((show _ = vif _ (.int .i64 v.support) from rfl).trans (vif_t hg).symm) (argsC ((show _ = vif _ (.int .i64 x.signer) from rfl).trans (vif_t hg).symm) argsN)) Try.func54 rfl rfl) Has_ok)) ?_
  intro w3 hx3
  have hE := hE.trans hx3
  have hq_pa := hq_pa.ext hx3
  have hf_pa := hf_pa.ext hx3
  have hp_v := hp_v.ext hx3
  have hfst := hfst.ext hx3
  have hby := hby.ext hx3
  have hB1 := hB1.ext hx3
  refine L.guardv (v := (.bool (!(has_f v.support x.signer)))) (wanted_no rfl rfl rfl) (fun hg => (op_not rfl ((show _ = vif _ (.bool (has_f v.support x.signer)) from rfl).trans (vif_t hg).symm))) ?_
  refine L.val rfl (op_or rfl rfl rfl rfl) ?_
  refine L.nil ?_
  refine thenF_nor ?_
  refine W.cond (t := (!(pa x)) || (!(has_f v.support x.signer))) rfl (fun hc4 => ?_) (fun hc4 => ?_)
  · have hp4 := hc4
    simp only [Bool.and_eq_true, Bool.or_eq_true, Bool.and_eq_false_iff, Bool.or_eq_false_iff, Bool.not_eq_true', Bool.not_eq_false', decide_eq_true_eq, decide_eq_false_iff_not] at hp4
    refine W.seq ?_
    refine W.region (by rfl) ?_
    refine L.val (v := (.bool false)) rfl (op_assign rfl rfl) ?_
    refine L.nil ?_
    refine thenF_nor ?_
    refine W.ret ?_
    refine thenF_ret ?_
    exact end_ret1 (v := (.bool false)) rfl rfl ⟨by simp only [precommit3s_f, hc4, cond_true], hE⟩
  · have hp4 := hc4
    simp only [Bool.and_eq_true, Bool.or_eq_true, Bool.and_eq_false_iff, Bool.or_eq_false_iff, Bool.not_eq_true', Bool.not_eq_false', decide_eq_true_eq, decide_eq_false_iff_not] at hp4
    refine W.skip ?_
    refine thenF_nor ?_
    refine W.seq ?_
    refine W.seq ?_
    refine W.region (by rfl) ?_
    refine L.val rfl (op_load1 rfl rfl one95 (hfst.cells.one (n := 0) rfl)) ?_
    refine L.val (v := (.bool false)) rfl (op_eqlp (a := some ⟨b_y, 0, none⟩) rfl rfl rfl Try.underlying95) ?_
    refine L.nil ?_
    refine thenF_nor ?_
    refine W.cond (t := false) rfl (fun h => nomatch h) (fun _ => ?_)
    refine W.skip ?_
    refine thenF_nor ?_
    refine W.seq ?_
    refine W.drawS [Sp.eq (.pointer (some ⟨b_y, 0, none⟩)), Sp.eq (.pointer (some ⟨b_y, 0, none⟩)), Sp.eq (Enc.val (y : Vt)), Sp.eq (Enc.val (x : Vt)), Sp.eq (.bool (same_f y x)), Sp.eq (.bool (!(same_f y x))), Sp.eq (.bool (!(same_f y x)))] mixed (by rfl) (Obls.cons ?_ (Obls.cons ?_ (Obls.cons ?_ (Obls.cons ?_ (Obls.cons ?_ (Obls.cons ?_ (Obls.cons ?_ Obls.nil))))))) ?_
    · intro f6 w6 hx6 ho6 hd6
      have d6_s3 : f6 3 = (.pointer (some ⟨bf, 0, none⟩)) := ho6 3 rfl
      have hq_pa := hq_pa.ext hx6
      have hf_pa := hf_pa.ext hx6
      have hp_v := hp_v.ext hx6
      have hfst := hfst.ext hx6
      have hby := hby.ext hx6
      have hB1 := hB1.ext hx6
      exact D.val rfl (op_load1 rfl d6_s3 one95 (hfst.cells.one (n := 0) rfl))
    · intro f7 w7 hx7 ho7 hd7
      have d7_0 : f7 20 = (.pointer (some ⟨b_y, 0, none⟩)) := hd7 0 rfl
      exact D.val rfl (op_nilCheck rfl d7_0)
    · intro f8 w8 hx8 ho8 hd8
      have d8_1 : f8 21 = (.pointer (some ⟨b_y, 0, none⟩)) := hd8 1 rfl
      have hq_pa := hq_pa.ext hx8
      have hf_pa := hf_pa.ext hx8
      have hp_v := hp_v.ext hx8
      have hfst := hfst.ext hx8
      have hby := hby.ext hx8
      have hB1 := hB1.ext hx8
      exact D.val rfl (op_load (v := (y : Vt)) rfl d8_1 ty28 hby.cells)
    · intro f9 w9 hx9 ho9 hd9
      have d9_s4 : f9 4 = (.pointer (some ⟨b1, 0, none⟩)) := ho9 4 rfl
      have hq_pa := hq_pa.ext hx9
      have hf_pa := hf_pa.ext hx9
      have hp_v := hp_v.ext hx9
      have hfst := hfst.ext hx9
      have hby := hby.ext hx9
      have hB1 := hB1.ext hx9
      exact D.val rfl (op_load (v := (x : Vt)) rfl d9_s4 ty28 hB1.cells)
    · intro f10 w10 hx10 ho10 hd10
      have d10_2 : f10 22 = (Enc.val (y : Vt)) := hd10 2 rfl
      have d10_3 : f10 23 = (Enc.val (x : Vt)) := hd10 3 rfl
      have hq_pa := hq_pa.ext hx10
      have hf_pa := hf_pa.ext hx10
      have hp_v := hp_v.ext hx10
      have hfst := hfst.ext hx10
      have hby := hby.ext hx10
      have hB1 := hB1.ext hx10
      exact D.call (R := (Sp.eq (.bool (same_f y x))).p) rfl (OpS.call (op_call rfl (argsC d10_2 (argsC d10_3 argsN)) Try.func57 rfl rfl) same_ok)
    · intro f11 w11 hx11 ho11 hd11
      have d11_4 : f11 24 = (.bool (same_f y x)) := hd11 4 rfl
      exact D.val rfl (op_not rfl d11_4)
    · intro f12 w12 hx12 ho12 hd12
      have d12_5 : f12 25 = (.bool (!(same_f y x))) := hd12 5 rfl
      exact D.val rfl (op_assign rfl d12_5)
    intro f13 w13 hx13 ho13 hr13
    have s0 : f13 0 = (Enc.val (x : Vt)) := ho13 0 rfl
    have s1 : f13 1 = (.pointer (some q_pa)) := ho13 1 rfl
    have s2 : f13 2 = (.pointer (some p_v)) := ho13 2 rfl
    have s3 : f13 3 = (.pointer (some ⟨bf, 0, none⟩)) := ho13 3 rfl
    have s4 : f13 4 = (.pointer (some ⟨b1, 0, none⟩)) := ho13 4 rfl
    have s17 : f13 17 = (.bool ((!(pa x)) || (!(has_f v.support x.signer)))) := ho13 17 rfl
    have s19 : f13 19 = (.bool false) := ho13 19 rfl
    have s5 : f13 5 = (.bool (!(same_f y x))) := hr13 6 (by decide)
    have hE := hE.trans hx13
    have hq_pa := hq_pa.ext hx13
    have hf_pa := hf_pa.ext hx13
    have hp_v := hp_v.ext hx13
    have hfst := hfst.ext hx13
    have hby := hby.ext hx13
    have hB1 := hB1.ext hx13
    refine thenF_nor ?_
    refine W.ret ?_
    exact end_ret1 (v := (.bool (!(same_f y x)))) rfl s5 ⟨by simp only [precommit3s_f, hc4, cond_false], hE⟩

def precommit3n_f (x : Vt) (pa : Vt → Bool) (v : Vt) : Bool := bif (!(pa x)) || (!(has_f v.support x.signer)) then false else !(same_f x x)
set_option maxRecDepth 100000 in
theorem precommit3n_ok {x : Vt} {q_pa : Addr} {fv_pa : Value} {pa : Vt → Bool} {p_v : Addr} {v : Vt} {bf : Nat}  {wB w : World} (hq_pa : Cells wB q_pa [fv_pa]) (hf_pa : Fits Try.prog wB fv_pa pa) (hp_v : Cells wB p_v (Enc.cells v)) (hfst : Box w bf 95 [.pointer none]) (hEB : Ext wB w) (hbf : wB.heap.size ≤ bf) : Gives Try.prog 85 #[(Enc.val (x : Vt)), (.pointer (some q_pa)), (.pointer (some p_v)), (.pointer (some ⟨bf, 0, none⟩))] w fun u w' => u = .bool (precommit3n_f x pa v) ∧ Ext wB w' ∧ (((!pa x) || (!has_f v.support x.signer)) = true ∧ Box w' bf 95 [.pointer none] ∨ ((!pa x) || (!has_f v.support x.signer)) = false ∧ ∃ b, bf < b ∧ Box w' bf 95 [.pointer (some ⟨b, 0, none⟩)] ∧ Box w' b 28 (Enc.cells x)) := by
  refine gives_of_W Try.func85 rfl Try.ntmps85 rfl ?_
  have S0_hq_pa := hq_pa
  have S0_hf_pa := hf_pa
  have S0_hp_v := hp_v
  have hS0 := hEB
  have hq_pa := hq_pa.ext hS0
  have hf_pa := hf_pa.ext hS0
  have hp_v := hp_v.ext hS0
  have hltw := hfst.lt
  refine W.seq ?_
  refine W.region (by rfl) ?_
  refine L.step rfl (op_box (cs := (Enc.cells (x : Vt))) rfl rfl rfl) ?_
  rintro _ w1 ⟨b1, rfl, hb1, hB1, hx1⟩
  have hS0 := hS0.trans hx1
  have hq_pa := hq_pa.ext hx1
  have hf_pa := hf_pa.ext hx1
  have hp_v := hp_v.ext hx1
  have hfst := hfst.ext hx1
  refine L.val (v := (.bool false)) rfl (op_assign rfl rfl) ?_
  refine L.nil ?_
  refine thenF_nor ?_
  refine W.seq ?_
  refine W.seq ?_
  refine W.region (by rfl) ?_
  refine L.val rfl (op_load1 rfl rfl one65 (hq_pa.one (n := 0) rfl)) ?_
  refine L.val rfl (op_load (v := (x : Vt)) rfl rfl ty28 hB1.cells) ?_
  refine L.call (v := (.bool (pa x))) rfl (op_fits (a := (x : Vt)) hf_pa rfl rfl rfl) ?_
  intro w2 hx2
  have hS0 := hS0.trans hx2
  have hq_pa := hq_pa.ext hx2
  have hf_pa := hf_pa.ext hx2
  have hp_v := hp_v.ext hx2
  have hfst := hfst.ext hx2
  have hB1 := hB1.ext hx2
  refine L.val rfl (op_not rfl rfl) ?_
  refine L.val rfl (op_move rfl rfl) ?_
  refine L.guardv (v := (.pointer (some (p_v.add 5)))) (wanted_no rfl rfl rfl) (fun hg => (op_field rfl rfl fo28_5 rfl)) ?_
  refine L.guardv (v := (.int .i64 v.support)) (wanted_no rfl rfl rfl) (fun hg => (op_load1 rfl ((show _ = vif _ (.pointer (some (p_v.add 5))) from rfl).trans (vif_t hg).symm) one22 (hp_v.one (n := 5) rfl))) ?_
  refine L.guardv (v := (.pointer (some ⟨b1, 4, none⟩))) (wanted_no rfl rfl rfl) (fun hg => (op_field rfl rfl fo28_4 rfl)) ?_
  refine L.guardv (v := (.int .i64 x.signer)) (wanted_no rfl rfl rfl) (fun hg => (op_load1 rfl ((show _ = vif _ (.pointer (some ⟨b1, 4, none⟩)) from rfl).trans (vif_t hg).symm) one3 (hB1.cells.one (n := 4) rfl))) ?_
  refine L.guardc (v := (.bool (has_f v.support x.signer))) (wanted_no rfl rfl rfl) (fun hg => (OpS.call (op_call rfl (argsC ((show _ = vif _ (.int .i64 v.support) from rfl).trans (vif_t hg).symm) (argsC ((show _ = vif _ (.int .i64 x.signer) from rfl).trans (vif_t hg).symm) argsN)) Try.func54 rfl rfl) Has_ok)) ?_
  intro w3 hx3
  have hS0 := hS0.trans hx3
  have hq_pa := hq_pa.ext hx3
  have hf_pa := hf_pa.ext hx3
  have hp_v := hp_v.ext hx3
  have hfst := hfst.ext hx3
  have hB1 := hB1.ext hx3
  refine L.guardv (v := (.bool (!(has_f v.support x.signer)))) (wanted_no rfl rfl rfl) (fun hg => (op_not rfl ((show _ = vif _ (.bool (has_f v.support x.signer)) from rfl).trans (vif_t hg).symm))) ?_
  refine L.val rfl (op_or rfl rfl rfl rfl) ?_
  refine L.nil ?_
  refine thenF_nor ?_
  refine W.cond (t := (!(pa x)) || (!(has_f v.support x.signer))) rfl (fun hc4 => ?_) (fun hc4 => ?_)
  · have hp4 := hc4
    simp only [Bool.and_eq_true, Bool.or_eq_true, Bool.and_eq_false_iff, Bool.or_eq_false_iff, Bool.not_eq_true', Bool.not_eq_false', decide_eq_true_eq, decide_eq_false_iff_not] at hp4
    refine W.seq ?_
    refine W.region (by rfl) ?_
    refine L.val (v := (.bool false)) rfl (op_assign rfl rfl) ?_
    refine L.nil ?_
    refine thenF_nor ?_
    refine W.ret ?_
    refine thenF_ret ?_
    exact end_ret1 (v := (.bool false)) rfl rfl ⟨by simp only [precommit3n_f, hc4, cond_true], hS0, Or.inl ⟨hc4, hfst⟩⟩
  · have hp4 := hc4
    simp only [Bool.and_eq_true, Bool.or_eq_true, Bool.and_eq_false_iff, Bool.or_eq_false_iff, Bool.not_eq_true', Bool.not_eq_false', decide_eq_true_eq, decide_eq_false_iff_not] at hp4
    refine W.skip ?_
    refine thenF_nor ?_
    refine W.seq ?_
    refine W.seq ?_
    refine W.region (by rfl) ?_
    refine L.val rfl (op_load1 rfl rfl one95 (hfst.cells.one (n := 0) rfl)) ?_
    refine L.val (v := (.bool true)) rfl (op_eqlp (a := none) rfl rfl rfl Try.underlying95) ?_
    refine L.nil ?_
    refine thenF_nor ?_
    refine W.cond (t := true) rfl (fun _ => ?_) (fun h => nomatch h)
    refine W.region (by rfl) ?_
    refine L.step rfl (op_put (v := (.pointer (some ⟨b1, 0, none⟩))) rfl rfl rfl si95 hfst (by decide) rfl rfl) ?_
    rintro _ w5 ⟨hB5, hg5⟩
    have hbx := hB1.far hg5 (by simp; omega)
    have hlt := hfst.lt
    have hbl : bf < b1 := by omega
    have hS0 := hS0.grown hg5 (by intro k hk; cases hk; exact hbf)
    have hq_pa := S0_hq_pa.ext hS0
    have hf_pa := S0_hf_pa.ext hS0
    have hp_v := S0_hp_v.ext hS0
    have hfst := hB5
    have hB1 := hbx
    refine L.nil ?_
    refine thenF_nor ?_
    refine W.seq ?_
    refine W.drawS [Sp.eq (.pointer (some ⟨b1, 0, none⟩)), Sp.eq (.pointer (some ⟨b1, 0, none⟩)), Sp.eq (Enc.val (x : Vt)), Sp.eq (Enc.val (x : Vt)), Sp.eq (.bool (same_f x x)), Sp.eq (.bool (!(same_f x x))), Sp.eq (.bool (!(same_f x x)))] mixed (by rfl) (Obls.cons ?_ (Obls.cons ?_ (Obls.cons ?_ (Obls.cons ?_ (Obls.cons ?_ (Obls.cons ?_ (Obls.cons ?_ Obls.nil))))))) ?_
    · intro f7 w7 hx7 ho7 hd7
      have d7_s3 : f7 3 = (.pointer (some ⟨bf, 0, none⟩)) := ho7 3 rfl
      have hq_pa := hq_pa.ext hx7
      have hf_pa := hf_pa.ext hx7
      have hp_v := hp_v.ext hx7
      have hfst := hfst.ext hx7
      have hB1 := hB1.ext hx7
      exact D.val rfl (op_load1 rfl d7_s3 one95 (hfst.cells.one (n := 0) rfl))
    · intro f8 w8 hx8 ho8 hd8
      have d8_0 : f8 20 = (.pointer (some ⟨b1, 0, none⟩)) := hd8 0 rfl
      exact D.val rfl (op_nilCheck rfl d8_0)
    · intro f9 w9 hx9 ho9 hd9
      have d9_1 : f9 21 = (.pointer (some ⟨b1, 0, none⟩)) := hd9 1 rfl
      have hq_pa := hq_pa.ext hx9
      have hf_pa := hf_pa.ext hx9
      have hp_v := hp_v.ext hx9
      have hfst := hfst.ext hx9
      have hB1 := hB1.ext hx9
      exact D.val rfl (op_load (v := (x : Vt)) rfl d9_1 ty28 hB1.cells)
    · intro f10 w10 hx10 ho10 hd10
      have d10_s4 : f10 4 = (.pointer (some ⟨b1, 0, none⟩)) := ho10 4 rfl
      have hq_pa := hq_pa.ext hx10
      have hf_pa := hf_pa.ext hx10
      have hp_v := hp_v.ext hx10
      have hfst := hfst.ext hx10
      have hB1 := hB1.ext hx10
      exact D.val rfl (op_load (v := (x : Vt)) rfl d10_s4 ty28 hB1.cells)
    · intro f11 w11 hx11 ho11 hd11
      have d11_2 : f11 22 = (Enc.val (x : Vt)) := hd11 2 rfl
      have d11_3 : f11 23 = (Enc.val (x : Vt)) := hd11 3 rfl
      have hq_pa := hq_pa.ext hx11
      have hf_pa := hf_pa.ext hx11
      have hp_v := hp_v.ext hx11
      have hfst := hfst.ext hx11
      have hB1 := hB1.ext hx11
      exact D.call (R := (Sp.eq (.bool (same_f x x))).p) rfl (OpS.call (op_call rfl (argsC d11_2 (argsC d11_3 argsN)) Try.func57 rfl rfl) same_ok)
    · intro f12 w12 hx12 ho12 hd12
      have d12_4 : f12 24 = (.bool (same_f x x)) := hd12 4 rfl
      exact D.val rfl (op_not rfl d12_4)
    · intro f13 w13 hx13 ho13 hd13
      have d13_5 : f13 25 = (.bool (!(same_f x x))) := hd13 5 rfl
      exact D.val rfl (op_assign rfl d13_5)
    intro f14 w14 hx14 ho14 hr14
    have s0 : f14 0 = (Enc.val (x : Vt)) := ho14 0 rfl
    have s1 : f14 1 = (.pointer (some q_pa)) := ho14 1 rfl
    have s2 : f14 2 = (.pointer (some p_v)) := ho14 2 rfl
    have s3 : f14 3 = (.pointer (some ⟨bf, 0, none⟩)) := ho14 3 rfl
    have s4 : f14 4 = (.pointer (some ⟨b1, 0, none⟩)) := ho14 4 rfl
    have s17 : f14 17 = (.bool ((!(pa x)) || (!(has_f v.support x.signer)))) := ho14 17 rfl
    have s19 : f14 19 = (.bool true) := ho14 19 rfl
    have s5 : f14 5 = (.bool (!(same_f x x))) := hr14 6 (by decide)
    have hS0 := hS0.trans hx14
    have hq_pa := hq_pa.ext hx14
    have hf_pa := hf_pa.ext hx14
    have hp_v := hp_v.ext hx14
    have hfst := hfst.ext hx14
    have hB1 := hB1.ext hx14
    refine thenF_nor ?_
    refine W.ret ?_
    exact end_ret1 (v := (.bool (!(same_f x x)))) rfl s5 ⟨by simp only [precommit3n_f, hc4, cond_false], hS0, Or.inr ⟨hc4, _, hbl, hfst, hB1⟩⟩

end Go.Proofs.Ytdknjfmjddlphaa

/-
  court.has over a function value that keeps a state of its own in memory.
-/
namespace Go.Proofs.Ytdknjfmjddlphaa
open Go Go.Fk
set_option linter.unusedVariables false
set_option linter.unusedSimpArgs false

/-- whether one fits, each judged with those before it -/
def anySt (q : List Vt → Vt → Bool) : List Vt → List Vt → Bool
  | _, [] => false
  | pre, x :: t => q pre x || anySt q (pre ++ [x]) t
theorem anySt_bang {q : List Vt → Vt → Bool} {c : List Vt} {k : Nat} (h : k < c.length) : anySt q (c.take k) (c.drop k) = (q (c.take k) c[k]! || anySt q (c.take (k + 1)) (c.drop (k + 1))) := by
  rw [drop_bang h, take_bang h]; rfl

set_option maxRecDepth 100000 in
theorem has_st {m_c q_c : Int} {A_c : Option Addr} {c_c lo_c hi_c : Nat} {c : List Vt} {g : Nat} {caps : List Value} {fn : Func} (hg1 : Try.prog.funcs[g]? = some fn) (hg2 : fn.body.isSome = true) (hg3 : (fn.name == "runtime.NumGoroutine") = false) (J : List Vt → World → Prop) (q : List Vt → Vt → Bool)
    (hJx : ∀ pre w1 w2, J pre w1 → Ext w1 w2 → J pre w2) (hJR : ∀ pre w1, J pre w1 → Rd w1 lo_c hi_c A_c c) (hcall : ∀ pre x w1, J pre w1 → Gives Try.prog g (Enc.val (x : Vt) :: caps).toArray w1 fun u w2 => u = .bool (q pre x) ∧ J (pre ++ [x]) w2) {w : World} (hJ : J [] w) :
    Gives Try.prog 55 #[(.agg #[(.int .i64 m_c), (.int .i64 q_c), (.slice A_c c.length c_c)]), .func (.func g) #[] caps.toArray] w fun u w' => u = (.bool (anySt q [] c)) ∧ ∃ pre, J pre w' := by
  have hlen_c := (hJR _ _ hJ).len
  refine gives_of_W Try.func55 rfl Try.ntmps55 rfl ?_
  refine W.seq ?_
  refine W.region (by rfl) ?_
  refine L.step rfl (op_box (cs := [(.int .i64 m_c), (.int .i64 q_c), (.slice A_c c.length c_c)]) rfl rfl rfl) ?_
  rintro _ w1 ⟨b1, rfl, hb1, hB1, hx1⟩
  have hJ := hJx _ _ _ hJ hx1
  refine L.val (v := (.bool false)) rfl (op_assign rfl rfl) ?_
  refine L.nil ?_
  refine thenF_nor ?_
  refine W.seq ?_
  refine W.seq ?_
  refine W.region (by rfl) ?_
  refine L.val rfl (op_field rfl rfl fo68_2 rfl) ?_
  refine L.val rfl (op_load1 rfl rfl one25 (hB1.cells.one (n := 2) rfl)) ?_
  refine L.val rfl (op_len rfl rfl ln25) ?_
  refine L.val rfl (op_move rfl rfl) ?_
  refine L.nil ?_
  refine thenF_nor ?_
  refine W.block ?_
  refine W.loopg (γ := Nat) (fun (k : Nat) (f : Fr) (w : World) => k ≤ c.length ∧ anySt q (c.take k) (c.drop k) = anySt q [] c ∧ f 1 = .func (.func g) #[] caps.toArray ∧ f 8 = (.slice A_c c.length c_c) ∧ f 9 = (.int .i64 (c.length : Int)) ∧ f 10 = (.int .i64 ((k : Nat) : Int)) ∧ J (c.take k) w) (fun (k : Nat) => c.length - k) 0 ⟨(by omega), rfl, rfl, rfl, rfl, rfl, hJ⟩ ?_
  rintro k f3 w3 ⟨hk, hany, s3_1, s3_8, s3_9, s3_10, hJ⟩
  have hR_c := hJR _ _ hJ
  refine W.seq ?_
  refine W.region (by rfl) ?_
  refine L.val rfl (op_lss rfl s3_10 s3_9) ?_
  refine L.nil ?_
  refine thenF_nor ?_
  refine W.seq ?_
  refine W.cond (t := decide (((k : Nat) : Int) < (c.length : Int))) rfl (fun hc4 => ?_) (fun hc4 => ?_)
  · have hp4 := hc4
    simp only [Bool.and_eq_true, Bool.or_eq_true, Bool.and_eq_false_iff, Bool.or_eq_false_iff, Bool.not_eq_true', Bool.not_eq_false', decide_eq_true_eq, decide_eq_false_iff_not] at hp4
    refine W.skip ?_
    refine thenF_nor ?_
    refine W.seq ?_
    refine W.block ?_
    refine W.seq ?_
    refine W.region (by rfl) ?_
    have hx5 := get_bang (l := c) (k := k) (by omega)
    obtain ⟨ad5, hA5, hlo5, hhi5, hc5⟩ := hR_c.get hx5
    refine L.val rfl (op_index (k := k) rfl s3_8 s3_10 sl25 hA5 rfl (by omega) rfl) ?_
    refine L.val rfl (op_load (v := (c[k]! : Vt)) rfl rfl ty28 hc5) ?_
    refine L.newvar (v := (Enc.val (c[k]! : Vt))) (cs := (Enc.cells (c[k]! : Vt))) rfl rfl rfl rfl rfl rfl (fun _ => rfl) rfl si28 zs28 (Enc.one _) ?_
    intro b6 w6 hb6 hB6 hx6
    have hJ := hJx _ _ _ hJ hx6
    refine L.nil ?_
    refine thenF_nor ?_
    refine W.seq ?_
    refine W.region (by rfl) ?_
    refine L.val rfl (op_move rfl s3_1) ?_
    refine L.val rfl (op_load (v := (c[k]! : Vt)) rfl rfl ty28 hB6.cells) ?_
    refine L.step rfl (OpS.call (op_callv (g := g) (caps := caps) rfl rfl (argsC rfl argsN) hg1 hg2 hg3) (hcall _ c[k]! _ hJ)) ?_
    rintro _ w7 ⟨rfl, hJ⟩
    rw [← take_bang (by omega)] at hJ
    rw [anySt_bang (by omega)] at hany
    refine L.nil ?_
    refine thenF_nor ?_
    refine W.cond (t := q (c.take k) c[k]!) rfl (fun hc8 => ?_) (fun hc8 => ?_)
    · have hp8 := hc8
      have hyes := hc8
      have hres : true = anySt q [] c := by rw [← hany, hyes]; rfl
      refine W.seq ?_
      refine W.region (by rfl) ?_
      refine L.val (v := (.bool true)) rfl (op_assign rfl rfl) ?_
      refine L.nil ?_
      refine thenF_nor ?_
      refine W.ret ?_
      refine blockF_ret ?_
      refine thenF_ret ?_
      refine thenF_ret ?_
      refine blockF_ret ?_
      refine thenF_ret ?_
      exact end_ret1 (v := (.bool true)) rfl rfl ⟨(by rw [← hres]), _, hJ⟩
    · have hp8 := hc8
      have hno := hc8
      rw [hno, Bool.false_or] at hany
      refine W.skip ?_
      refine blockF_nor ?_
      refine thenF_nor ?_
      refine W.region (by rfl) ?_
      refine L.val rfl (op_add (c := ((k + 1 : Nat) : Int)) rfl s3_10 rfl (by omega) (by omega)) ?_
      refine L.val rfl (op_move rfl rfl) ?_
      refine L.nil ?_
      refine thenF_nor ?_
      exact ⟨k + 1, ⟨(by (try dsimp only); omega), hany, s3_1, s3_8, s3_9, rfl, hJ⟩, (by (try dsimp only); omega)⟩
  · have hp4 := hc4
    simp only [Bool.and_eq_true, Bool.or_eq_true, Bool.and_eq_false_iff, Bool.or_eq_false_iff, Bool.not_eq_true', Bool.not_eq_false', decide_eq_true_eq, decide_eq_false_iff_not] at hp4
    have hres : false = anySt q [] c := by rw [← hany, List.drop_of_length_le (by omega)]; rfl
    refine W.exit ?_
    refine thenF_exit ?_
    refine thenF_exit ?_
    refine blockF_hit ?_
    refine thenF_nor ?_
    refine W.seq ?_
    refine W.region (by rfl) ?_
    refine L.val (v := (.bool false)) rfl (op_assign rfl rfl) ?_
    refine L.nil ?_
    refine thenF_nor ?_
    refine W.ret ?_
    exact end_ret1 (v := (.bool false)) rfl rfl ⟨(by rw [← hres]), _, hJ⟩
end Go.Proofs.Ytdknjfmjddlphaa

/-
  The last closure of court.precommit: it keeps a pointer to the first vote that counts.
-/
namespace Go.Proofs.Ytdknjfmjddlphaa
open Go Go.Fk

/-- whether the vote counts for the Mixed Precommit v -/
def pre3ok (v x : Vt) : Bool := precommit1_f x v && has_f v.support x.signer
/-- whether the vote differs from the first that counts -/
def pre3q (v : Vt) (pre : List Vt) (x : Vt) : Bool := match (pre.filter (pre3ok v)).head? with
  | none => precommit3n_f x (fun xx => precommit1_f xx v) v
  | some y => precommit3s_f x (fun xx => precommit1_f xx v) v y
/-- between two calls: what the pointer holds -/
def J3 (v : Vt) (wP : World) (bf : Nat) (pre : List Vt) (w : World) : Prop :=
  Ext wP w ∧ ((pre.filter (pre3ok v)).head? = none ∧ Box w bf 95 [.pointer none] ∨ ∃ y b, (pre.filter (pre3ok v)).head? = some y ∧ bf < b ∧ Box w bf 95 [.pointer (some ⟨b, 0, none⟩)] ∧ Box w b 28 (Enc.cells y))
theorem J3.ext {v : Vt} {wP : World} {bf : Nat} {pre : List Vt} {w w' : World} (h : J3 v wP bf pre w) (hx : Ext w w') : J3 v wP bf pre w' := by
  obtain ⟨h1, h2⟩ := h
  refine ⟨h1.trans hx, ?_⟩
  rcases h2 with ⟨h3, h4⟩ | ⟨y, b, h3, h4, h5, h6⟩
  · exact Or.inl ⟨h3, h4.ext hx⟩
  · exact Or.inr ⟨y, b, h3, h4, h5.ext hx, h6.ext hx⟩
theorem pre3_call {wP : World} {bf : Nat} {q_pa p_v : Addr} {fv : Value} {v : Vt} (hq : Cells wP q_pa [fv]) (hf : Fits Try.prog wP fv (fun xx => precommit1_f xx v)) (hp : Cells wP p_v (Enc.cells v)) (hbf : wP.heap.size ≤ bf) (pre : List Vt) (x : Vt) (w : World) (h : J3 v wP bf pre w) :
    Gives Try.prog 85 (Enc.val x :: [.pointer (some q_pa), .pointer (some p_v), .pointer (some ⟨bf, 0, none⟩)]).toArray w fun u w' => u = .bool (pre3q v pre x) ∧ J3 v wP bf (pre ++ [x]) w' := by
  obtain ⟨h1, h2⟩ := h
  have hfa : (pre ++ [x]).filter (pre3ok v) = pre.filter (pre3ok v) ++ [x].filter (pre3ok v) := List.filter_append ..
  have hnok : ((!(precommit1_f x v)) || (!(has_f v.support x.signer))) = !(pre3ok v x) := by unfold pre3ok; cases precommit1_f x v <;> cases has_f v.support x.signer <;> rfl
  rcases h2 with ⟨h3, h4⟩ | ⟨y, b, h3, h4, h5, h6⟩
  · refine (precommit3n_ok (x := x) hq hf hp h4 h1 hbf).mono ?_
    rintro u w' ⟨rfl, hE, hb⟩
    refine ⟨by unfold pre3q; rw [h3], hE, ?_⟩
    have hnil : pre.filter (pre3ok v) = [] := List.head?_eq_none_iff.1 h3
    simp only [hnok] at hb
    rcases hb with ⟨hk, hb⟩ | ⟨hk, b, hlt, hb, hy⟩
    · left
      rw [hfa, hnil]
      have : pre3ok v x = false := by simpa using hk
      simp [this, hb]
    · right
      have : pre3ok v x = true := by simpa using hk
      exact ⟨x, b, by rw [hfa, hnil]; simp [this], hlt, hb, hy⟩
  · refine (precommit3s_ok (x := x) (hq.ext h1) (hf.ext h1) (hp.ext h1) h5 h6).mono ?_
    rintro u w' ⟨rfl, hE⟩
    refine ⟨by unfold pre3q; rw [h3], h1.trans hE, Or.inr ⟨y, b, ?_, h4, h5.ext hE, h6.ext hE⟩⟩
    rw [hfa, List.head?_append, h3]; rfl
theorem pre3_has {wP w : World} {bf : Nat} {q_pa p_v : Addr} {fv : Value} {v : Vt} {m_c q_c : Int} {A_c : Option Addr} {c_c lo_c hi_c : Nat} {c : List Vt} (hR : Rd wP lo_c hi_c A_c c) (hq : Cells wP q_pa [fv]) (hf : Fits Try.prog wP fv (fun xx => precommit1_f xx v)) (hp : Cells wP p_v (Enc.cells v)) (hbf : wP.heap.size ≤ bf) (hx : Ext wP w) (hb : Box w bf 95 [.pointer none]) :
    Gives Try.prog 55 #[(.agg #[(.int .i64 m_c), (.int .i64 q_c), (.slice A_c c.length c_c)]), .func (.func 85) #[] #[.pointer (some q_pa), .pointer (some p_v), .pointer (some ⟨bf, 0, none⟩)]] w fun u w' => u = (.bool (anySt (pre3q v) [] c)) ∧ Ext wP w' :=
  (has_st Try.func85 rfl rfl (J3 v wP bf) (pre3q v) (fun _ _ _ h hx => h.ext hx) (fun _ _ h => hR.ext h.1) (pre3_call hq hf hp hbf) ⟨hx, Or.inl ⟨rfl, hb⟩⟩).mono fun _ _ ⟨h1, _, h2⟩ => ⟨h1, h2.1⟩
end Go.Proofs.Ytdknjfmjddlphaa

/-
  Contracts of functions of the program, each with its walk in the logic of frames. Printed by a program of this session (wip/gen) from the translation.
-/
set_option linter.unusedSimpArgs false
set_option linter.unusedVariables false
namespace Go.Proofs.Ytdknjfmjddlphaa
open Go Go.Fk

def precommit_f (m_c : Int) (q_c : Int) (c : List Vt) (v : Vt) : Bool := bif !decide (v.choice = 2) then supported_f m_c q_c v c (fun xx => precommit2_f xx (fun xx => precommit1_f xx v) v) else (bif !(supported_f m_c q_c v c (fun xx => precommit1_f xx v)) then false else anySt (pre3q v) [] c)
set_option maxRecDepth 100000 in
theorem precommit_ok {m_c q_c : Int} {A_c : Option Addr} {c_c lo_c hi_c : Nat} {c : List Vt} {v : Vt}  {w : World} (hR_c : Rd w lo_c hi_c A_c c) : Gives Try.prog 59 #[(.agg #[(.int .i64 m_c), (.int .i64 q_c), (.slice A_c c.length c_c)]), (Enc.val (v : Vt))] w fun u w' => u = (.bool (precommit_f m_c q_c c v)) ∧ Ext w w' := by
  have hE : Ext w w := Ext.refl w
  have hlen_c := hR_c.len
  refine gives_of_W Try.func59 rfl Try.ntmps59 rfl ?_
  refine W.seq ?_
  refine W.region (by rfl) ?_
  refine L.step rfl (op_box (cs := [(.int .i64 m_c), (.int .i64 q_c), (.slice A_c c.length c_c)]) rfl rfl rfl) ?_
  rintro _ w1 ⟨b1, rfl, hb1, hB1, hx1⟩
  have hE := hE.trans hx1
  have hR_c := hR_c.ext hx1
  refine L.step rfl (op_box (cs := (Enc.cells (v : Vt))) rfl rfl rfl) ?_
  rintro _ w2 ⟨b2, rfl, hb2, hB2, hx2⟩
  have hE := hE.trans hx2
  have hR_c := hR_c.ext hx2
  have hB1 := hB1.ext hx2
  refine L.val (v := (.bool false)) rfl (op_assign rfl rfl) ?_
  refine L.nil ?_
  refine thenF_nor ?_
  refine W.seq ?_
  refine W.region (by rfl) ?_
  refine L.val rfl (op_func rfl (argsC rfl argsN)) ?_
  refine L.newvar (v := (.func (.func 83) #[] #[(.pointer (some ⟨b2, 0, none⟩))])) (cs := [(.func (.func 83) #[] #[(.pointer (some ⟨b2, 0, none⟩))])]) rfl rfl rfl rfl rfl rfl (fun _ => rfl) rfl si65 zs65 (by intro u hu; simp at hu; subst hu; rfl) ?_
  intro b3 w3 hb3 hB3 hx3
  have hbb3_hE := Nat.le_trans hE.size hb3
  have hE := hE.trans hx3
  have hR_c := hR_c.ext hx3
  have hB1 := hB1.ext hx3
  have hB2 := hB2.ext hx3
  refine L.nil ?_
  refine thenF_nor ?_
  refine W.seq ?_
  refine W.seq ?_
  refine W.region (by rfl) ?_
  refine L.val rfl (op_field rfl rfl fo28_3 rfl) ?_
  refine L.val rfl (op_load1 rfl rfl one3 (hB2.cells.one (n := 3) rfl)) ?_
  refine L.val rfl (op_neq rfl rfl rfl) ?_
  refine L.nil ?_
  refine thenF_nor ?_
  refine W.cond (t := !decide (v.choice = 2)) rfl (fun hc4 => ?_) (fun hc4 => ?_)
  · have hp4 := hc4
    simp only [Bool.and_eq_true, Bool.or_eq_true, Bool.and_eq_false_iff, Bool.or_eq_false_iff, Bool.not_eq_true', Bool.not_eq_false', decide_eq_true_eq, decide_eq_false_iff_not] at hp4
    refine W.seq ?_
    refine W.region (by rfl) ?_
    refine L.val rfl (op_loadcs (cs := [(.int .i64 m_c), (.int .i64 q_c), (.slice A_c c.length c_c)]) rfl rfl ag68 si68 hB1.cells) ?_
    refine L.val rfl (op_load (v := (v : Vt)) rfl rfl ty28 hB2.cells) ?_
    refine L.val rfl (op_func rfl (argsC rfl (argsC rfl argsN))) ?_
    refine L.call (v := (.bool (supported_f m_c q_c v c (fun xx => precommit2_f xx (fun xx => precommit1_f xx v) v)))) rfl (OpS.call (op_call rfl (argsC rfl (argsC rfl (argsC rfl argsN))) Try.func76 rfl rfl) (supported_ok hR_c (⟨_, [(.pointer (some ⟨b3, 0, none⟩)), (.pointer (some ⟨b2, 0, none⟩))], _, rfl, Try.func84, rfl, rfl, fun xx ww hxx => (precommit2_ok (hB3.cells.ext hxx) (Fits.ext ((⟨_, [(.pointer (some ⟨b2, 0, none⟩))], _, rfl, Try.func83, rfl, rfl, fun xx ww hxx => (precommit1_ok (hB2.cells.ext hxx))⟩ : Fits _ _ _ (fun xx => precommit1_f xx v))) hxx) (hB2.cells.ext hxx))⟩ : Fits _ _ _ (fun xx => precommit2_f xx (fun xx => precommit1_f xx v) v)))) ?_
    intro w5 hx5
    have hE := hE.trans hx5
    have hR_c := hR_c.ext hx5
    have hB1 := hB1.ext hx5
    have hB2 := hB2.ext hx5
    have hB3 := hB3.ext hx5
    refine L.val rfl (op_assign rfl rfl) ?_
    refine L.nil ?_
    refine thenF_nor ?_
    refine W.ret ?_
    refine thenF_ret ?_
    exact end_ret1 (v := (.bool (supported_f m_c q_c v c (fun xx => precommit2_f xx (fun xx => precommit1_f xx v) v)))) rfl rfl ⟨by simp only [precommit_f, hc4, cond_true], hE⟩
  · have hp4 := hc4
    simp only [Bool.and_eq_true, Bool.or_eq_true, Bool.and_eq_false_iff, Bool.or_eq_false_iff, Bool.not_eq_true', Bool.not_eq_false', decide_eq_true_eq, decide_eq_false_iff_not] at hp4
    refine W.skip ?_
    refine thenF_nor ?_
    refine W.seq ?_
    refine W.seq ?_
    refine W.region (by rfl) ?_
    refine L.val rfl (op_loadcs (cs := [(.int .i64 m_c), (.int .i64 q_c), (.slice A_c c.length c_c)]) rfl rfl ag68 si68 hB1.cells) ?_
    refine L.val rfl (op_load (v := (v : Vt)) rfl rfl ty28 hB2.cells) ?_
    refine L.val rfl (op_load1 rfl rfl one65 (hB3.cells.one (n := 0) rfl)) ?_
    refine L.call (v := (.bool (supported_f m_c q_c v c (fun xx => precommit1_f xx v)))) rfl (OpS.call (op_call rfl (argsC rfl (argsC rfl (argsC rfl argsN))) Try.func76 rfl rfl) (supported_ok hR_c (⟨_, [(.pointer (some ⟨b2, 0, none⟩))], _, rfl, Try.func83, rfl, rfl, fun xx ww hxx => (precommit1_ok (hB2.cells.ext hxx))⟩ : Fits _ _ _ (fun xx => precommit1_f xx v)))) ?_
    intro w6 hx6
    have hE := hE.trans hx6
    have hR_c := hR_c.ext hx6
    have hB1 := hB1.ext hx6
    have hB2 := hB2.ext hx6
    have hB3 := hB3.ext hx6
    refine L.val rfl (op_not rfl rfl) ?_
    refine L.nil ?_
    refine thenF_nor ?_
    refine W.cond (t := !(supported_f m_c q_c v c (fun xx => precommit1_f xx v))) rfl (fun hc7 => ?_) (fun hc7 => ?_)
    · have hp7 := hc7
      simp only [Bool.and_eq_true, Bool.or_eq_true, Bool.and_eq_false_iff, Bool.or_eq_false_iff, Bool.not_eq_true', Bool.not_eq_false', decide_eq_true_eq, decide_eq_false_iff_not] at hp7
      refine W.seq ?_
      refine W.region (by rfl) ?_
      refine L.val (v := (.bool false)) rfl (op_assign rfl rfl) ?_
      refine L.nil ?_
      refine thenF_nor ?_
      refine W.ret ?_
      refine thenF_ret ?_
      exact end_ret1 (v := (.bool false)) rfl rfl ⟨by simp only [precommit_f, hc4, hc7, cond_true, cond_false], hE⟩
    · have hp7 := hc7
      simp only [Bool.and_eq_true, Bool.or_eq_true, Bool.and_eq_false_iff, Bool.or_eq_false_iff, Bool.not_eq_true', Bool.not_eq_false', decide_eq_true_eq, decide_eq_false_iff_not] at hp7
      refine W.skip ?_
      refine thenF_nor ?_
      refine W.seq ?_
      have S8_hR_c := hR_c
      have S8_hB1 := hB1
      have S8_hB2 := hB2
      have S8_hB3 := hB3
      have S8_hE := hE
      have hS8 : Ext w6 w6 := Ext.refl _
      refine W.region (by rfl) ?_
      refine L.step rfl (op_alloc (z := (.pointer none)) (cs := [(.pointer none)]) rfl (by kernel_rfl) rfl) ?_
      rintro _ w9 ⟨b9, rfl, hb9, hB9, hx9⟩
      have hbb9_hE := Nat.le_trans hE.size hb9
      have hbb9_hS8 := Nat.le_trans hS8.size hb9
      have hE := hE.trans hx9
      have hS8 := hS8.trans hx9
      have hR_c := hR_c.ext hx9
      have hB1 := hB1.ext hx9
      have hB2 := hB2.ext hx9
      have hB3 := hB3.ext hx9
      refine L.nil ?_
      refine thenF_nor ?_
      refine W.seq ?_
      refine W.region (by rfl) ?_
      refine L.val rfl (op_loadcs (cs := [(.int .i64 m_c), (.int .i64 q_c), (.slice A_c c.length c_c)]) rfl rfl ag68 si68 hB1.cells) ?_
      refine L.val rfl (op_func rfl (argsC rfl (argsC rfl (argsC rfl argsN)))) ?_
      refine L.step rfl (OpS.call (op_call rfl (argsC rfl (argsC rfl argsN)) Try.func55 rfl rfl) (pre3_has S8_hR_c (S8_hB3.cells) (⟨_, [(.pointer (some ⟨b2, 0, none⟩))], _, rfl, Try.func83, rfl, rfl, fun xx ww hxx => (precommit1_ok (S8_hB2.cells.ext hxx))⟩ : Fits _ _ _ (fun xx => precommit1_f xx v)) (S8_hB2.cells) hb9 hS8 hB9)) ?_
      rintro _ w10 ⟨rfl, hS8⟩
      have hR_c := S8_hR_c.ext hS8
      have hB1 := S8_hB1.ext hS8
      have hB2 := S8_hB2.ext hS8
      have hB3 := S8_hB3.ext hS8
      have hE := S8_hE.trans hS8
      refine L.val rfl (op_assign rfl rfl) ?_
      refine L.nil ?_
      refine thenF_nor ?_
      refine W.ret ?_
      exact end_ret1 (v := (.bool (anySt (pre3q v) [] c))) rfl rfl ⟨by simp only [precommit_f, hc4, hc7, cond_false], hE⟩

end Go.Proofs.Ytdknjfmjddlphaa

/-
  Sets of ids in an int: membership, size, the ids in order. No walk.
-/
namespace Go.Proofs.Ytdknjfmjddlphaa
open Go Go.Fk

theorem iand_low (m : Int) (k : Nat) (hk : k ≤ 62) : iand m (2 ^ k - 1) = m % 2 ^ k := by
  have hp : (2 : Int) ^ k ≤ 2 ^ 62 := by
    have := Nat.pow_le_pow_right (n := 2) (by decide) hk
    exact_mod_cast this
  have h1 : (1 : Int) ≤ 2 ^ k := by
    have := Nat.one_le_two_pow (n := k)
    exact_mod_cast this
  have e1 : (BitVec.ofInt 64 (2 ^ k - 1)).toNat = 2 ^ k - 1 := by
    rw [BitVec.toNat_ofInt]
    have : ((2 : Int) ^ k - 1) % ((2 ^ 64 : Nat) : Int) = 2 ^ k - 1 := Int.emod_eq_of_lt (by omega) (by omega)
    rw [this]
    have h2 : ((2 ^ k : Nat) : Int) = 2 ^ k := by simp
    omega
  show IntKind.i64.wrap (((BitVec.ofInt 64 m &&& BitVec.ofInt 64 (2 ^ k - 1)).toNat : Nat) : Int) = m % 2 ^ k
  rw [BitVec.toNat_and, e1, Nat.and_two_pow_sub_one_eq_mod, BitVec.toNat_ofInt]
  have hnn : 0 ≤ m % 2 ^ k := Int.emod_nonneg _ (by omega)
  have hlt : m % 2 ^ k < 2 ^ k := Int.emod_lt_of_pos _ (by omega)
  have hd : (2 : Int) ^ k ∣ ((2 ^ 64 : Nat) : Int) := by
    refine ⟨2 ^ (64 - k), ?_⟩
    rw [← Int.pow_add]
    have : k + (64 - k) = 64 := by omega
    rw [this]; rfl
  have e2 : (((m % ((2 ^ 64 : Nat) : Int)).toNat % 2 ^ k : Nat) : Int) = m % 2 ^ k := by
    have h0 : 0 ≤ m % ((2 ^ 64 : Nat) : Int) := Int.emod_nonneg _ (by decide)
    rw [Int.natCast_emod, Int.toNat_of_nonneg h0]
    simp only [Int.natCast_pow, Int.cast_ofNat_Int]
    exact Int.emod_emod_of_dvd m (by simpa using hd)
  rw [e2]
  exact wrap_in ⟨by omega, by omega⟩

theorem iand_one (m : Int) : iand m 1 = m % 2 := iand_low m 1 (by decide)
theorem iand_1023 (m : Int) : iand m 1023 = m % 1024 := iand_low m 10 (by decide)

theorem has_iff (m i : Int) : has_f m i = (decide (0 ≤ i) && decide (i < 10) && decide ((m / 2 ^ i.toNat) % 2 = 1)) := by
  unfold has_f
  rw [iand_one]

theorem has_mod (m i : Int) : has_f (m % 1024) i = has_f m i := by
  rw [has_iff, has_iff]
  by_cases h0 : 0 ≤ i
  · by_cases h1 : i < 10
    · obtain ⟨k, rfl⟩ : ∃ k : Nat, i = k := ⟨i.toNat, by omega⟩
      have hk : k < 10 := by omega
      simp only [Int.toNat_natCast]
      have : (m % 1024 / 2 ^ k) % 2 = (m / 2 ^ k) % 2 := by
        rcases (show k = 0 ∨ k = 1 ∨ k = 2 ∨ k = 3 ∨ k = 4 ∨ k = 5 ∨ k = 6 ∨ k = 7 ∨ k = 8 ∨ k = 9 by omega) with rfl | rfl | rfl | rfl | rfl | rfl | rfl | rfl | rfl | rfl <;> omega
      simp only [this]
    · simp [h1]
  · simp [h0]

theorem ids_mod (m : Int) : ids_f (m % 1024) = ids_f m := by
  unfold ids_f
  congr 1
  funext i
  exact has_mod m i
theorem size_mod (m : Int) : size_f (m % 1024) = size_f m := by
  unfold size_f
  rw [iand_1023, iand_1023, Int.emod_emod_of_dvd m (by decide)]
theorem size_table : ∀ k : Fin 1024, size_f ((k.val : Nat) : Int) = ((ids_f ((k.val : Nat) : Int)).length : Int) := by decide +kernel
theorem size_ids (m : Int) : size_f m = ((ids_f m).length : Int) := by
  rw [← size_mod, ← ids_mod]
  have h0 : 0 ≤ m % 1024 := Int.emod_nonneg _ (by decide)
  have h1 : m % 1024 < 1024 := Int.emod_lt_of_pos _ (by decide)
  have := size_table ⟨(m % 1024).toNat, by omega⟩
  simp only [Int.toNat_of_nonneg h0] at this
  exact this
theorem ids_len (m : Int) : (ids_f m).length ≤ 10 := by
  unfold ids_f
  refine Nat.le_trans (List.length_filter_le _ _) ?_
  simp
theorem size_nn (m : Int) : 0 ≤ size_f m := by rw [size_ids]; omega
theorem size_le (m : Int) : size_f m ≤ 10 := by rw [size_ids]; have := ids_len m; omega
theorem mem_ids {m i : Int} : i ∈ ids_f m ↔ has_f m i = true := by
  unfold ids_f
  rw [List.mem_filter]
  constructor
  · exact fun h => h.2
  · intro h
    refine ⟨?_, h⟩
    rw [has_iff] at h
    simp only [Bool.and_eq_true, decide_eq_true_eq] at h
    rw [List.mem_map]
    exact ⟨i.toNat, by rw [List.mem_range]; omega, by omega⟩
end Go.Proofs.Ytdknjfmjddlphaa

/-
  What justify.Allowed counts, and bounds that a valid vote keeps. No walk.
-/
namespace Go.Proofs.Ytdknjfmjddlphaa
open Go Go.Fk

/-- the vote x counts when v is judged -/
def counts_f (m : Int) (v x : Vt) : Bool :=
  ((((valid_f x) && (decide (x.parent = v.parent))) && (decide (x.slot = v.slot))) && (decide (x.kind ≤ 4))) && (has_f m x.signer)
theorem between_iff {n lo hi : Int} : between_f n lo hi = true ↔ lo ≤ n ∧ n ≤ hi := by simp [between_f]
theorem valid_bounds {v : Vt} (h : valid_f v = true) : (1 ≤ v.kind ∧ v.kind ≤ 7) ∧ (0 ≤ v.signer ∧ v.signer ≤ 9) ∧ (0 ≤ v.slot ∧ v.slot ≤ 9) ∧ (0 ≤ v.round ∧ v.round ≤ 12) := by
  unfold valid_f at h
  cases h1 : (!(between_f v.kind 1 7)) || (!(between_f v.signer 0 9)) with
  | true => rw [h1] at h; simp at h
  | false =>
    rw [h1] at h
    simp only [Bool.or_eq_false_iff, Bool.not_eq_false', between_iff] at h1
    simp only [cond_false] at h
    cases h2 : ((decide (v.choice = 1)) == (decide (v.value = Nm.zero))) || (!decide ((iandn v.support 1023) = 0)) with
    | true => rw [h2] at h; simp at h
    | false =>
      rw [h2] at h
      simp only [cond_false] at h
      by_cases k1 : v.kind = 1
      · simp [k1, between_iff] at h; exact ⟨h1.1, h1.2, by omega, by omega⟩
      · by_cases k2 : v.kind = 2
        · simp [k2, between_iff] at h; exact ⟨h1.1, h1.2, by omega, by omega⟩
        · by_cases k3 : v.kind = 3
          · simp [k3, between_iff] at h; exact ⟨h1.1, h1.2, by omega, by omega⟩
          · by_cases k4 : v.kind = 4
            · simp [k4, between_iff] at h; exact ⟨h1.1, h1.2, by omega, by omega⟩
            · simp [k1, k2, k3, k4, between_iff] at h; exact ⟨h1.1, h1.2, by omega, by omega⟩
end Go.Proofs.Ytdknjfmjddlphaa
