/-
  Contracts of functions of the program, each with its walk in the logic of frames. Printed by a program of this session (wip/gen) from the translation.
-/
import Derived.Test.YtdknjfmjddlphaaZd
import Derived.Test.YtdknjfmjddlphaaDrawG
set_option linter.unusedSimpArgs false
set_option linter.unusedVariables false
namespace Go.Proofs.Ytdknjfmjddlphaa
open Go Go.Fk

def like_f (x : Vt) (v : Vt) (kind : Int) (round : Int) : Bool := (((decide (x.kind = kind)) && (decide (x.round = round))) && (decide (x.choice = v.choice))) && (decide (x.value = v.value))
set_option maxRecDepth 100000 in
theorem like_ok {x : Vt} {v : Vt} {kind : Int} {round : Int}  {w : World}  : Gives Try.prog 98 #[(Enc.val (x : Vt)), (Enc.val (v : Vt)), (.int .i64 kind), (.int .i64 round)] w fun u w' => u = (.bool (like_f x v kind round)) ∧ Ext w w' := by
  have hE : Ext w w := Ext.refl w
  refine gives_of_W Try.func98 rfl Try.ntmps98 rfl ?_
  refine W.seq ?_
  refine W.region (by rfl) ?_
  refine L.step rfl (op_box (cs := (Enc.cells (x : Vt))) rfl rfl rfl) ?_
  rintro _ w1 ⟨b1, rfl, hb1, hB1, hx1⟩
  have hE := hE.trans hx1
  refine L.step rfl (op_box (cs := (Enc.cells (v : Vt))) rfl rfl rfl) ?_
  rintro _ w2 ⟨b2, rfl, hb2, hB2, hx2⟩
  have hE := hE.trans hx2
  have hB1 := hB1.ext hx2
  refine L.val (v := (.bool false)) rfl (op_assign rfl rfl) ?_
  refine L.nil ?_
  refine thenF_nor ?_
  refine W.seq ?_
  refine W.region (by rfl) ?_
  refine L.val rfl (op_field rfl rfl fo28_0 rfl) ?_
  refine L.val rfl (op_load1 rfl rfl one3 (hB1.cells.one (n := 0) rfl)) ?_
  refine L.val rfl (op_move rfl rfl) ?_
  refine L.val rfl (op_eql rfl rfl rfl) ?_
  refine L.val rfl (op_move rfl rfl) ?_
  refine L.guardv (v := (.pointer (some ⟨b1, 2, none⟩))) (wanted_yes rfl rfl rfl) (fun hg => (op_field rfl rfl fo28_2 rfl)) ?_
  refine L.guardv (v := (.int .i64 x.round)) (wanted_yes rfl rfl rfl) (fun hg => (op_load1 rfl ((show _ = vif _ (.pointer (some ⟨b1, 2, none⟩)) from rfl).trans (vif_t hg).symm) one3 (hB1.cells.one (n := 2) rfl))) ?_
  refine L.guardv (v := (.int .i64 round)) (wanted_yes rfl rfl rfl) (fun hg => (op_move rfl rfl)) ?_
  refine L.guardv (v := (.bool (decide (x.round = round)))) (wanted_yes rfl rfl rfl) (fun hg => (op_eql rfl ((show _ = vif _ (.int .i64 x.round) from rfl).trans (vif_t hg).symm) ((show _ = vif _ (.int .i64 round) from rfl).trans (vif_t hg).symm))) ?_
  refine L.val rfl (op_and rfl rfl rfl rfl) ?_
  refine L.val rfl (op_move rfl rfl) ?_
  refine L.guardv (v := (.pointer (some ⟨b1, 3, none⟩))) (wanted_yes rfl rfl rfl) (fun hg => (op_field rfl rfl fo28_3 rfl)) ?_
  refine L.guardv (v := (.int .i64 x.choice)) (wanted_yes rfl rfl rfl) (fun hg => (op_load1 rfl ((show _ = vif _ (.pointer (some ⟨b1, 3, none⟩)) from rfl).trans (vif_t hg).symm) one3 (hB1.cells.one (n := 3) rfl))) ?_
  refine L.guardv (v := (.pointer (some ⟨b2, 3, none⟩))) (wanted_yes rfl rfl rfl) (fun hg => (op_field rfl rfl fo28_3 rfl)) ?_
  refine L.guardv (v := (.int .i64 v.choice)) (wanted_yes rfl rfl rfl) (fun hg => (op_load1 rfl ((show _ = vif _ (.pointer (some ⟨b2, 3, none⟩)) from rfl).trans (vif_t hg).symm) one3 (hB2.cells.one (n := 3) rfl))) ?_
  refine L.guardv (v := (.bool (decide (x.choice = v.choice)))) (wanted_yes rfl rfl rfl) (fun hg => (op_eql rfl ((show _ = vif _ (.int .i64 x.choice) from rfl).trans (vif_t hg).symm) ((show _ = vif _ (.int .i64 v.choice) from rfl).trans (vif_t hg).symm))) ?_
  refine L.val rfl (op_and rfl rfl rfl rfl) ?_
  refine L.val rfl (op_move rfl rfl) ?_
  refine L.guardv (v := (.pointer (some ⟨b1, 14, none⟩))) (wanted_yes rfl rfl rfl) (fun hg => (op_field rfl rfl fo28_7 rfl)) ?_
  refine L.guardv (v := (Enc.val (x.value : Nm))) (wanted_yes rfl rfl rfl) (fun hg => (op_load (v := (x.value : Nm)) rfl ((show _ = vif _ (.pointer (some ⟨b1, 14, none⟩)) from rfl).trans (vif_t hg).symm) ty24 (sub_nm 14 hB1.cells rfl))) ?_
  refine L.guardv (v := (.pointer (some ⟨b2, 14, none⟩))) (wanted_yes rfl rfl rfl) (fun hg => (op_field rfl rfl fo28_7 rfl)) ?_
  refine L.guardv (v := (Enc.val (v.value : Nm))) (wanted_yes rfl rfl rfl) (fun hg => (op_load (v := (v.value : Nm)) rfl ((show _ = vif _ (.pointer (some ⟨b2, 14, none⟩)) from rfl).trans (vif_t hg).symm) ty24 (sub_nm 14 hB2.cells rfl))) ?_
  refine L.guardv (v := (.bool (decide (x.value = v.value)))) (wanted_yes rfl rfl rfl) (fun hg => (op_eqle (a := (x.value : Nm)) (b := (v.value : Nm)) rfl ((show _ = vif _ (Enc.val (x.value : Nm)) from rfl).trans (vif_t hg).symm) ((show _ = vif _ (Enc.val (v.value : Nm)) from rfl).trans (vif_t hg).symm) eq24 (fun _ => ⟨_, rfl⟩) Try.eqGuardType24)) ?_
  refine L.val rfl (op_and rfl rfl rfl rfl) ?_
  refine L.val rfl (op_assign rfl rfl) ?_
  refine L.nil ?_
  refine thenF_nor ?_
  refine W.ret ?_
  exact end_ret1 (v := (.bool ((((decide (x.kind = kind)) && (decide (x.round = round))) && (decide (x.choice = v.choice))) && (decide (x.value = v.value))))) rfl rfl ⟨by simp only [like_f], hE⟩

def supp1_f (x : Vt) (i : Int) (v : Vt) (kind : Int) (round : Int) : Bool := (decide (x.signer = i)) && (like_f x v kind round)
set_option maxRecDepth 100000 in
theorem supp1_ok {x : Vt} {p_i : Addr} {i : Int} {p_v : Addr} {v : Vt} {p_kind : Addr} {kind : Int} {p_round : Addr} {round : Int}  {w : World} (hp_i : Cells w p_i (Enc.cells i)) (hp_v : Cells w p_v (Enc.cells v)) (hp_kind : Cells w p_kind (Enc.cells kind)) (hp_round : Cells w p_round (Enc.cells round)) : Gives Try.prog 122 #[(Enc.val (x : Vt)), (.pointer (some p_i)), (.pointer (some p_v)), (.pointer (some p_kind)), (.pointer (some p_round))] w fun u w' => u = (.bool (supp1_f x i v kind round)) ∧ Ext w w' := by
  have hE : Ext w w := Ext.refl w
  refine gives_of_W Try.func122 rfl Try.ntmps122 rfl ?_
  refine W.seq ?_
  refine W.region (by rfl) ?_
  refine L.step rfl (op_box (cs := (Enc.cells (x : Vt))) rfl rfl rfl) ?_
  rintro _ w1 ⟨b1, rfl, hb1, hB1, hx1⟩
  have hE := hE.trans hx1
  have hp_i := hp_i.ext hx1
  have hp_v := hp_v.ext hx1
  have hp_kind := hp_kind.ext hx1
  have hp_round := hp_round.ext hx1
  refine L.val (v := (.bool false)) rfl (op_assign rfl rfl) ?_
  refine L.nil ?_
  refine thenF_nor ?_
  refine W.seq ?_
  refine W.region (by rfl) ?_
  refine L.val rfl (op_field rfl rfl fo28_4 rfl) ?_
  refine L.val rfl (op_load1 rfl rfl one3 (hB1.cells.one (n := 4) rfl)) ?_
  refine L.val rfl (op_load1 rfl rfl one3 (hp_i.one (n := 0) rfl)) ?_
  refine L.val rfl (op_eql rfl rfl rfl) ?_
  refine L.val rfl (op_move rfl rfl) ?_
  refine L.guardv (v := (Enc.val (x : Vt))) (wanted_yes rfl rfl rfl) (fun hg => (op_load (v := (x : Vt)) rfl rfl ty28 hB1.cells)) ?_
  refine L.guardv (v := (Enc.val (v : Vt))) (wanted_yes rfl rfl rfl) (fun hg => (op_load (v := (v : Vt)) rfl rfl ty28 hp_v)) ?_
  refine L.guardv (v := (.int .i64 kind)) (wanted_yes rfl rfl rfl) (fun hg => (op_load1 rfl rfl one3 (hp_kind.one (n := 0) rfl))) ?_
  refine L.guardv (v := (.int .i64 round)) (wanted_yes rfl rfl rfl) (fun hg => (op_load1 rfl rfl one3 (hp_round.one (n := 0) rfl))) ?_
  refine L.guardc (v := (.bool (like_f x v kind round))) (wanted_yes rfl rfl rfl) (fun hg => (OpS.call (op_call rfl (argsC ((show _ = vif _ (Enc.val (x : Vt)) from rfl).trans (vif_t hg).symm) (argsC ((show _ = vif _ (Enc.val (v : Vt)) from rfl).trans (vif_t hg).symm) (argsC ((show _ = vif _ (.int .i64 kind) from rfl).trans (vif_t hg).symm) (argsC ((show _ = vif _ (.int .i64 round) from rfl).trans (vif_t hg).symm) argsN)))) Try.func98 rfl rfl) like_ok)) ?_
  intro w2 hx2
  have hE := hE.trans hx2
  have hp_i := hp_i.ext hx2
  have hp_v := hp_v.ext hx2
  have hp_kind := hp_kind.ext hx2
  have hp_round := hp_round.ext hx2
  have hB1 := hB1.ext hx2
  refine L.val rfl (op_and rfl rfl rfl rfl) ?_
  refine L.val rfl (op_assign rfl rfl) ?_
  refine L.nil ?_
  refine thenF_nor ?_
  refine W.ret ?_
  exact end_ret1 (v := (.bool ((decide (x.signer = i)) && (like_f x v kind round)))) rfl rfl ⟨by simp only [supp1_f], hE⟩

def mix1_f (x : Vt) (i : Int) (v : Vt) : Bool := ((decide (x.signer = i)) && (decide (x.kind = 3))) && (decide (x.round = v.round))
set_option maxRecDepth 100000 in
theorem mix1_ok {x : Vt} {p_i : Addr} {i : Int} {p_v : Addr} {v : Vt}  {w : World} (hp_i : Cells w p_i (Enc.cells i)) (hp_v : Cells w p_v (Enc.cells v)) : Gives Try.prog 127 #[(Enc.val (x : Vt)), (.pointer (some p_i)), (.pointer (some p_v))] w fun u w' => u = (.bool (mix1_f x i v)) ∧ Ext w w' := by
  have hE : Ext w w := Ext.refl w
  refine gives_of_W Try.func127 rfl Try.ntmps127 rfl ?_
  refine W.seq ?_
  refine W.region (by rfl) ?_
  refine L.step rfl (op_box (cs := (Enc.cells (x : Vt))) rfl rfl rfl) ?_
  rintro _ w1 ⟨b1, rfl, hb1, hB1, hx1⟩
  have hE := hE.trans hx1
  have hp_i := hp_i.ext hx1
  have hp_v := hp_v.ext hx1
  refine L.val (v := (.bool false)) rfl (op_assign rfl rfl) ?_
  refine L.nil ?_
  refine thenF_nor ?_
  refine W.seq ?_
  refine W.region (by rfl) ?_
  refine L.val rfl (op_field rfl rfl fo28_4 rfl) ?_
  refine L.val rfl (op_load1 rfl rfl one3 (hB1.cells.one (n := 4) rfl)) ?_
  refine L.val rfl (op_load1 rfl rfl one3 (hp_i.one (n := 0) rfl)) ?_
  refine L.val rfl (op_eql rfl rfl rfl) ?_
  refine L.val rfl (op_move rfl rfl) ?_
  refine L.guardv (v := (.pointer (some ⟨b1, 0, none⟩))) (wanted_yes rfl rfl rfl) (fun hg => (op_field rfl rfl fo28_0 rfl)) ?_
  refine L.guardv (v := (.int .i64 x.kind)) (wanted_yes rfl rfl rfl) (fun hg => (op_load1 rfl ((show _ = vif _ (.pointer (some ⟨b1, 0, none⟩)) from rfl).trans (vif_t hg).symm) one3 (hB1.cells.one (n := 0) rfl))) ?_
  refine L.guardv (v := (.bool (decide (x.kind = 3)))) (wanted_yes rfl rfl rfl) (fun hg => (op_eql rfl ((show _ = vif _ (.int .i64 x.kind) from rfl).trans (vif_t hg).symm) rfl)) ?_
  refine L.val rfl (op_and rfl rfl rfl rfl) ?_
  refine L.val rfl (op_move rfl rfl) ?_
  refine L.guardv (v := (.pointer (some ⟨b1, 2, none⟩))) (wanted_yes rfl rfl rfl) (fun hg => (op_field rfl rfl fo28_2 rfl)) ?_
  refine L.guardv (v := (.int .i64 x.round)) (wanted_yes rfl rfl rfl) (fun hg => (op_load1 rfl ((show _ = vif _ (.pointer (some ⟨b1, 2, none⟩)) from rfl).trans (vif_t hg).symm) one3 (hB1.cells.one (n := 2) rfl))) ?_
  refine L.guardv (v := (.pointer (some (p_v.add 2)))) (wanted_yes rfl rfl rfl) (fun hg => (op_field rfl rfl fo28_2 rfl)) ?_
  refine L.guardv (v := (.int .i64 v.round)) (wanted_yes rfl rfl rfl) (fun hg => (op_load1 rfl ((show _ = vif _ (.pointer (some (p_v.add 2))) from rfl).trans (vif_t hg).symm) one3 (hp_v.one (n := 2) rfl))) ?_
  refine L.guardv (v := (.bool (decide (x.round = v.round)))) (wanted_yes rfl rfl rfl) (fun hg => (op_eql rfl ((show _ = vif _ (.int .i64 x.round) from rfl).trans (vif_t hg).symm) ((show _ = vif _ (.int .i64 v.round) from rfl).trans (vif_t hg).symm))) ?_
  refine L.val rfl (op_and rfl rfl rfl rfl) ?_
  refine L.val rfl (op_assign rfl rfl) ?_
  refine L.nil ?_
  refine thenF_nor ?_
  refine W.ret ?_
  exact end_ret1 (v := (.bool (((decide (x.signer = i)) && (decide (x.kind = 3))) && (decide (x.round = v.round))))) rfl rfl ⟨by simp only [mix1_f], hE⟩

def mix2_f (x : Vt) (v : Vt) (y : Vt) : Bool := (((decide (x.kind = 3)) && (decide (x.round = v.round))) && (has_f v.support x.signer)) && (!(like_f x y 3 v.round))
set_option maxRecDepth 100000 in
theorem mix2_ok {x : Vt} {p_v : Addr} {v : Vt} {p_y : Addr} {y : Vt}  {w : World} (hp_v : Cells w p_v (Enc.cells v)) (hp_y : Cells w p_y (Enc.cells y)) : Gives Try.prog 128 #[(Enc.val (x : Vt)), (.pointer (some p_v)), (.pointer (some p_y))] w fun u w' => u = (.bool (mix2_f x v y)) ∧ Ext w w' := by
  have hE : Ext w w := Ext.refl w
  refine gives_of_W Try.func128 rfl Try.ntmps128 rfl ?_
  refine W.seq ?_
  refine W.region (by rfl) ?_
  refine L.step rfl (op_box (cs := (Enc.cells (x : Vt))) rfl rfl rfl) ?_
  rintro _ w1 ⟨b1, rfl, hb1, hB1, hx1⟩
  have hE := hE.trans hx1
  have hp_v := hp_v.ext hx1
  have hp_y := hp_y.ext hx1
  refine L.val (v := (.bool false)) rfl (op_assign rfl rfl) ?_
  refine L.nil ?_
  refine thenF_nor ?_
  refine W.seq ?_
  refine W.region (by rfl) ?_
  refine L.val rfl (op_field rfl rfl fo28_0 rfl) ?_
  refine L.val rfl (op_load1 rfl rfl one3 (hB1.cells.one (n := 0) rfl)) ?_
  refine L.val rfl (op_eql rfl rfl rfl) ?_
  refine L.val rfl (op_move rfl rfl) ?_
  refine L.guardv (v := (.pointer (some ⟨b1, 2, none⟩))) (wanted_yes rfl rfl rfl) (fun hg => (op_field rfl rfl fo28_2 rfl)) ?_
  refine L.guardv (v := (.int .i64 x.round)) (wanted_yes rfl rfl rfl) (fun hg => (op_load1 rfl ((show _ = vif _ (.pointer (some ⟨b1, 2, none⟩)) from rfl).trans (vif_t hg).symm) one3 (hB1.cells.one (n := 2) rfl))) ?_
  refine L.guardv (v := (.pointer (some (p_v.add 2)))) (wanted_yes rfl rfl rfl) (fun hg => (op_field rfl rfl fo28_2 rfl)) ?_
  refine L.guardv (v := (.int .i64 v.round)) (wanted_yes rfl rfl rfl) (fun hg => (op_load1 rfl ((show _ = vif _ (.pointer (some (p_v.add 2))) from rfl).trans (vif_t hg).symm) one3 (hp_v.one (n := 2) rfl))) ?_
  refine L.guardv (v := (.bool (decide (x.round = v.round)))) (wanted_yes rfl rfl rfl) (fun hg => (op_eql rfl ((show _ = vif _ (.int .i64 x.round) from rfl).trans (vif_t hg).symm) ((show _ = vif _ (.int .i64 v.round) from rfl).trans (vif_t hg).symm))) ?_
  refine L.val rfl (op_and rfl rfl rfl rfl) ?_
  refine L.val rfl (op_move rfl rfl) ?_
  refine L.guardv (v := (.pointer (some (p_v.add 5)))) (wanted_yes rfl rfl rfl) (fun hg => (op_field rfl rfl fo28_5 rfl)) ?_
  refine L.guardv (v := (.int .i64 v.support)) (wanted_yes rfl rfl rfl) (fun hg => (op_load1 rfl ((show _ = vif _ (.pointer (some (p_v.add 5))) from rfl).trans (vif_t hg).symm) one22 (hp_v.one (n := 5) rfl))) ?_
  refine L.guardv (v := (.pointer (some ⟨b1, 4, none⟩))) (wanted_yes rfl rfl rfl) (fun hg => (op_field rfl rfl fo28_4 rfl)) ?_
  refine L.guardv (v := (.int .i64 x.signer)) (wanted_yes rfl rfl rfl) (fun hg => (op_load1 rfl ((show _ = vif _ (.pointer (some ⟨b1, 4, none⟩)) from rfl).trans (vif_t hg).symm) one3 (hB1.cells.one (n := 4) rfl))) ?_
  refine L.guardc (v := (.bool (has_f v.support x.signer))) (wanted_yes rfl rfl rfl) (fun hg => (OpS.call (op_call rfl (argsC ((show _ = vif _ (.int .i64 v.support) from rfl).trans (vif_t hg).symm) (argsC ((show _ = vif _ (.int .i64 x.signer) from rfl).trans (vif_t hg).symm) argsN)) Try.func54 rfl rfl) Has_ok)) ?_
  intro w2 hx2
  have hE := hE.trans hx2
  have hp_v := hp_v.ext hx2
  have hp_y := hp_y.ext hx2
  have hB1 := hB1.ext hx2
  refine L.val rfl (op_and rfl rfl rfl rfl) ?_
  refine L.val rfl (op_move rfl rfl) ?_
  refine L.guardv (v := (Enc.val (x : Vt))) (wanted_yes rfl rfl rfl) (fun hg => (op_load (v := (x : Vt)) rfl rfl ty28 hB1.cells)) ?_
  refine L.guardv (v := (Enc.val (y : Vt))) (wanted_yes rfl rfl rfl) (fun hg => (op_load (v := (y : Vt)) rfl rfl ty28 hp_y)) ?_
  refine L.guardv (v := (.pointer (some (p_v.add 2)))) (wanted_yes rfl rfl rfl) (fun hg => (op_field rfl rfl fo28_2 rfl)) ?_
  refine L.guardv (v := (.int .i64 v.round)) (wanted_yes rfl rfl rfl) (fun hg => (op_load1 rfl ((show _ = vif _ (.pointer (some (p_v.add 2))) from rfl).trans (vif_t hg).symm) one3 (hp_v.one (n := 2) rfl))) ?_
  refine L.guardc (v := (.bool (like_f x y 3 v.round))) (wanted_yes rfl rfl rfl) (fun hg => (OpS.call (op_call rfl (argsC ((show _ = vif _ (Enc.val (x : Vt)) from rfl).trans (vif_t hg).symm) (argsC ((show _ = vif _ (Enc.val (y : Vt)) from rfl).trans (vif_t hg).symm) (argsC rfl (argsC ((show _ = vif _ (.int .i64 v.round) from rfl).trans (vif_t hg).symm) argsN)))) Try.func98 rfl rfl) like_ok)) ?_
  intro w3 hx3
  have hE := hE.trans hx3
  have hp_v := hp_v.ext hx3
  have hp_y := hp_y.ext hx3
  have hB1 := hB1.ext hx3
  refine L.guardv (v := (.bool (!(like_f x y 3 v.round)))) (wanted_yes rfl rfl rfl) (fun hg => (op_not rfl ((show _ = vif _ (.bool (like_f x y 3 v.round)) from rfl).trans (vif_t hg).symm))) ?_
  refine L.val rfl (op_and rfl rfl rfl rfl) ?_
  refine L.val rfl (op_assign rfl rfl) ?_
  refine L.nil ?_
  refine thenF_nor ?_
  refine W.ret ?_
  exact end_ret1 (v := (.bool ((((decide (x.kind = 3)) && (decide (x.round = v.round))) && (has_f v.support x.signer)) && (!(like_f x y 3 v.round))))) rfl rfl ⟨by simp only [mix2_f], hE⟩

def later1_f (x : Vt) (i : Int) (v : Vt) : Bool := (decide (x.signer = i)) && (like_f x v 4 (v.round - 1))
set_option maxRecDepth 100000 in
theorem later1_ok {x : Vt} {p_i : Addr} {i : Int} {p_v : Addr} {v : Vt}  {w : World} (hp_i : Cells w p_i (Enc.cells i)) (hp_v : Cells w p_v (Enc.cells v)) (h0 : 0 ≤ v.round) (h1 : v.round ≤ 100) : Gives Try.prog 124 #[(Enc.val (x : Vt)), (.pointer (some p_i)), (.pointer (some p_v))] w fun u w' => u = (.bool (later1_f x i v)) ∧ Ext w w' := by
  have hE : Ext w w := Ext.refl w
  refine gives_of_W Try.func124 rfl Try.ntmps124 rfl ?_
  refine W.seq ?_
  refine W.region (by rfl) ?_
  refine L.step rfl (op_box (cs := (Enc.cells (x : Vt))) rfl rfl rfl) ?_
  rintro _ w1 ⟨b1, rfl, hb1, hB1, hx1⟩
  have hE := hE.trans hx1
  have hp_i := hp_i.ext hx1
  have hp_v := hp_v.ext hx1
  refine L.val (v := (.bool false)) rfl (op_assign rfl rfl) ?_
  refine L.nil ?_
  refine thenF_nor ?_
  refine W.seq ?_
  refine W.region (by rfl) ?_
  refine L.val rfl (op_field rfl rfl fo28_4 rfl) ?_
  refine L.val rfl (op_load1 rfl rfl one3 (hB1.cells.one (n := 4) rfl)) ?_
  refine L.val rfl (op_load1 rfl rfl one3 (hp_i.one (n := 0) rfl)) ?_
  refine L.val rfl (op_eql rfl rfl rfl) ?_
  refine L.val rfl (op_move rfl rfl) ?_
  refine L.guardv (v := (Enc.val (x : Vt))) (wanted_yes rfl rfl rfl) (fun hg => (op_load (v := (x : Vt)) rfl rfl ty28 hB1.cells)) ?_
  refine L.guardv (v := (Enc.val (v : Vt))) (wanted_yes rfl rfl rfl) (fun hg => (op_load (v := (v : Vt)) rfl rfl ty28 hp_v)) ?_
  refine L.guardv (v := (.pointer (some (p_v.add 2)))) (wanted_yes rfl rfl rfl) (fun hg => (op_field rfl rfl fo28_2 rfl)) ?_
  refine L.guardv (v := (.int .i64 v.round)) (wanted_yes rfl rfl rfl) (fun hg => (op_load1 rfl ((show _ = vif _ (.pointer (some (p_v.add 2))) from rfl).trans (vif_t hg).symm) one3 (hp_v.one (n := 2) rfl))) ?_
  refine L.guardv (v := (.int .i64 (v.round - 1))) (wanted_yes rfl rfl rfl) (fun hg => (op_sub rfl ((show _ = vif _ (.int .i64 v.round) from rfl).trans (vif_t hg).symm) rfl rfl (by omega))) ?_
  refine L.guardc (v := (.bool (like_f x v 4 (v.round - 1)))) (wanted_yes rfl rfl rfl) (fun hg => (OpS.call (op_call rfl (argsC ((show _ = vif _ (Enc.val (x : Vt)) from rfl).trans (vif_t hg).symm) (argsC ((show _ = vif _ (Enc.val (v : Vt)) from rfl).trans (vif_t hg).symm) (argsC rfl (argsC ((show _ = vif _ (.int .i64 (v.round - 1)) from rfl).trans (vif_t hg).symm) argsN)))) Try.func98 rfl rfl) like_ok)) ?_
  intro w2 hx2
  have hE := hE.trans hx2
  have hp_i := hp_i.ext hx2
  have hp_v := hp_v.ext hx2
  have hB1 := hB1.ext hx2
  refine L.val rfl (op_and rfl rfl rfl rfl) ?_
  refine L.val rfl (op_assign rfl rfl) ?_
  refine L.nil ?_
  refine thenF_nor ?_
  refine W.ret ?_
  exact end_ret1 (v := (.bool ((decide (x.signer = i)) && (like_f x v 4 (v.round - 1))))) rfl rfl ⟨by simp only [later1_f], hE⟩

def later2_f (x : Vt) (v : Vt) : Bool := like_f x v 3 (v.round - 1)
set_option maxRecDepth 100000 in
theorem later2_ok {x : Vt} {p_v : Addr} {v : Vt}  {w : World} (hp_v : Cells w p_v (Enc.cells v)) (h0 : 0 ≤ v.round) (h1 : v.round ≤ 100) : Gives Try.prog 126 #[(Enc.val (x : Vt)), (.pointer (some p_v))] w fun u w' => u = (.bool (later2_f x v)) ∧ Ext w w' := by
  have hE : Ext w w := Ext.refl w
  refine gives_of_W Try.func126 rfl Try.ntmps126 rfl ?_
  refine W.seq ?_
  refine W.region (by rfl) ?_
  refine L.step rfl (op_box (cs := (Enc.cells (x : Vt))) rfl rfl rfl) ?_
  rintro _ w1 ⟨b1, rfl, hb1, hB1, hx1⟩
  have hE := hE.trans hx1
  have hp_v := hp_v.ext hx1
  refine L.val (v := (.bool false)) rfl (op_assign rfl rfl) ?_
  refine L.nil ?_
  refine thenF_nor ?_
  refine W.seq ?_
  refine W.region (by rfl) ?_
  refine L.val rfl (op_load (v := (x : Vt)) rfl rfl ty28 hB1.cells) ?_
  refine L.val rfl (op_load (v := (v : Vt)) rfl rfl ty28 hp_v) ?_
  refine L.val rfl (op_field rfl rfl fo28_2 rfl) ?_
  refine L.val rfl (op_load1 rfl rfl one3 (hp_v.one (n := 2) rfl)) ?_
  refine L.val rfl (op_sub rfl rfl rfl rfl (by omega)) ?_
  refine L.call (v := (.bool (like_f x v 3 (v.round - 1)))) rfl (OpS.call (op_call rfl (argsC rfl (argsC rfl (argsC rfl (argsC rfl argsN)))) Try.func98 rfl rfl) like_ok) ?_
  intro w2 hx2
  have hE := hE.trans hx2
  have hp_v := hp_v.ext hx2
  have hB1 := hB1.ext hx2
  refine L.val rfl (op_assign rfl rfl) ?_
  refine L.nil ?_
  refine thenF_nor ?_
  refine W.ret ?_
  exact end_ret1 (v := (.bool (like_f x v 3 (v.round - 1)))) rfl rfl ⟨by simp only [later2_f], hE⟩

def lm1_f (x : Vt) (i : Int) (round : Int) : Bool := (((decide (x.signer = i)) && (decide (x.kind = 4))) && (decide (x.round = round))) && (decide (x.choice = 2))
set_option maxRecDepth 100000 in
theorem lm1_ok {x : Vt} {p_i : Addr} {i : Int} {p_round : Addr} {round : Int}  {w : World} (hp_i : Cells w p_i (Enc.cells i)) (hp_round : Cells w p_round (Enc.cells round)) : Gives Try.prog 134 #[(Enc.val (x : Vt)), (.pointer (some p_i)), (.pointer (some p_round))] w fun u w' => u = (.bool (lm1_f x i round)) ∧ Ext w w' := by
  have hE : Ext w w := Ext.refl w
  refine gives_of_W Try.func134 rfl Try.ntmps134 rfl ?_
  refine W.seq ?_
  refine W.region (by rfl) ?_
  refine L.step rfl (op_box (cs := (Enc.cells (x : Vt))) rfl rfl rfl) ?_
  rintro _ w1 ⟨b1, rfl, hb1, hB1, hx1⟩
  have hE := hE.trans hx1
  have hp_i := hp_i.ext hx1
  have hp_round := hp_round.ext hx1
  refine L.val (v := (.bool false)) rfl (op_assign rfl rfl) ?_
  refine L.nil ?_
  refine thenF_nor ?_
  refine W.seq ?_
  refine W.region (by rfl) ?_
  refine L.val rfl (op_field rfl rfl fo28_4 rfl) ?_
  refine L.val rfl (op_load1 rfl rfl one3 (hB1.cells.one (n := 4) rfl)) ?_
  refine L.val rfl (op_load1 rfl rfl one3 (hp_i.one (n := 0) rfl)) ?_
  refine L.val rfl (op_eql rfl rfl rfl) ?_
  refine L.val rfl (op_move rfl rfl) ?_
  refine L.guardv (v := (.pointer (some ⟨b1, 0, none⟩))) (wanted_yes rfl rfl rfl) (fun hg => (op_field rfl rfl fo28_0 rfl)) ?_
  refine L.guardv (v := (.int .i64 x.kind)) (wanted_yes rfl rfl rfl) (fun hg => (op_load1 rfl ((show _ = vif _ (.pointer (some ⟨b1, 0, none⟩)) from rfl).trans (vif_t hg).symm) one3 (hB1.cells.one (n := 0) rfl))) ?_
  refine L.guardv (v := (.bool (decide (x.kind = 4)))) (wanted_yes rfl rfl rfl) (fun hg => (op_eql rfl ((show _ = vif _ (.int .i64 x.kind) from rfl).trans (vif_t hg).symm) rfl)) ?_
  refine L.val rfl (op_and rfl rfl rfl rfl) ?_
  refine L.val rfl (op_move rfl rfl) ?_
  refine L.guardv (v := (.pointer (some ⟨b1, 2, none⟩))) (wanted_yes rfl rfl rfl) (fun hg => (op_field rfl rfl fo28_2 rfl)) ?_
  refine L.guardv (v := (.int .i64 x.round)) (wanted_yes rfl rfl rfl) (fun hg => (op_load1 rfl ((show _ = vif _ (.pointer (some ⟨b1, 2, none⟩)) from rfl).trans (vif_t hg).symm) one3 (hB1.cells.one (n := 2) rfl))) ?_
  refine L.guardv (v := (.int .i64 round)) (wanted_yes rfl rfl rfl) (fun hg => (op_load1 rfl rfl one3 (hp_round.one (n := 0) rfl))) ?_
  refine L.guardv (v := (.bool (decide (x.round = round)))) (wanted_yes rfl rfl rfl) (fun hg => (op_eql rfl ((show _ = vif _ (.int .i64 x.round) from rfl).trans (vif_t hg).symm) ((show _ = vif _ (.int .i64 round) from rfl).trans (vif_t hg).symm))) ?_
  refine L.val rfl (op_and rfl rfl rfl rfl) ?_
  refine L.val rfl (op_move rfl rfl) ?_
  refine L.guardv (v := (.pointer (some ⟨b1, 3, none⟩))) (wanted_yes rfl rfl rfl) (fun hg => (op_field rfl rfl fo28_3 rfl)) ?_
  refine L.guardv (v := (.int .i64 x.choice)) (wanted_yes rfl rfl rfl) (fun hg => (op_load1 rfl ((show _ = vif _ (.pointer (some ⟨b1, 3, none⟩)) from rfl).trans (vif_t hg).symm) one3 (hB1.cells.one (n := 3) rfl))) ?_
  refine L.guardv (v := (.bool (decide (x.choice = 2)))) (wanted_yes rfl rfl rfl) (fun hg => (op_eql rfl ((show _ = vif _ (.int .i64 x.choice) from rfl).trans (vif_t hg).symm) rfl)) ?_
  refine L.val rfl (op_and rfl rfl rfl rfl) ?_
  refine L.val rfl (op_assign rfl rfl) ?_
  refine L.nil ?_
  refine thenF_nor ?_
  refine W.ret ?_
  exact end_ret1 (v := (.bool ((((decide (x.signer = i)) && (decide (x.kind = 4))) && (decide (x.round = round))) && (decide (x.choice = 2))))) rfl rfl ⟨by simp only [lm1_f], hE⟩

def exp1_f (x : Vt) (v : Vt) : Bool := like_f x v 1 0
set_option maxRecDepth 100000 in
theorem exp1_ok {x : Vt} {p_v : Addr} {v : Vt}  {w : World} (hp_v : Cells w p_v (Enc.cells v)) : Gives Try.prog 97 #[(Enc.val (x : Vt)), (.pointer (some p_v))] w fun u w' => u = (.bool (exp1_f x v)) ∧ Ext w w' := by
  have hE : Ext w w := Ext.refl w
  refine gives_of_W Try.func97 rfl Try.ntmps97 rfl ?_
  refine W.seq ?_
  refine W.region (by rfl) ?_
  refine L.step rfl (op_box (cs := (Enc.cells (x : Vt))) rfl rfl rfl) ?_
  rintro _ w1 ⟨b1, rfl, hb1, hB1, hx1⟩
  have hE := hE.trans hx1
  have hp_v := hp_v.ext hx1
  refine L.val (v := (.bool false)) rfl (op_assign rfl rfl) ?_
  refine L.nil ?_
  refine thenF_nor ?_
  refine W.seq ?_
  refine W.region (by rfl) ?_
  refine L.val rfl (op_load (v := (x : Vt)) rfl rfl ty28 hB1.cells) ?_
  refine L.val rfl (op_load (v := (v : Vt)) rfl rfl ty28 hp_v) ?_
  refine L.call (v := (.bool (like_f x v 1 0))) rfl (OpS.call (op_call rfl (argsC rfl (argsC rfl (argsC rfl (argsC rfl argsN)))) Try.func98 rfl rfl) like_ok) ?_
  intro w2 hx2
  have hE := hE.trans hx2
  have hp_v := hp_v.ext hx2
  have hB1 := hB1.ext hx2
  refine L.val rfl (op_assign rfl rfl) ?_
  refine L.nil ?_
  refine thenF_nor ?_
  refine W.ret ?_
  exact end_ret1 (v := (.bool (like_f x v 1 0))) rfl rfl ⟨by simp only [exp1_f], hE⟩

def clo1_f (x : Vt) (i : Int) (o : Oc) : Bool := ((((decide (x.signer = i)) && (decide (x.kind = 4))) && (decide (x.round = o.round))) && (decide (x.choice = o.choice))) && (decide (x.value = o.value))
set_option maxRecDepth 100000 in
theorem clo1_ok {x : Vt} {p_i : Addr} {i : Int} {p_o : Addr} {o : Oc}  {w : World} (hp_i : Cells w p_i (Enc.cells i)) (hp_o : Cells w p_o (Enc.cells o)) : Gives Try.prog 71 #[(Enc.val (x : Vt)), (.pointer (some p_i)), (.pointer (some p_o))] w fun u w' => u = (.bool (clo1_f x i o)) ∧ Ext w w' := by
  have hE : Ext w w := Ext.refl w
  refine gives_of_W Try.func71 rfl Try.ntmps71 rfl ?_
  refine W.seq ?_
  refine W.region (by rfl) ?_
  refine L.step rfl (op_box (cs := (Enc.cells (x : Vt))) rfl rfl rfl) ?_
  rintro _ w1 ⟨b1, rfl, hb1, hB1, hx1⟩
  have hE := hE.trans hx1
  have hp_i := hp_i.ext hx1
  have hp_o := hp_o.ext hx1
  refine L.val (v := (.bool false)) rfl (op_assign rfl rfl) ?_
  refine L.nil ?_
  refine thenF_nor ?_
  refine W.seq ?_
  refine W.region (by rfl) ?_
  refine L.val rfl (op_field rfl rfl fo28_4 rfl) ?_
  refine L.val rfl (op_load1 rfl rfl one3 (hB1.cells.one (n := 4) rfl)) ?_
  refine L.val rfl (op_load1 rfl rfl one3 (hp_i.one (n := 0) rfl)) ?_
  refine L.val rfl (op_eql rfl rfl rfl) ?_
  refine L.val rfl (op_move rfl rfl) ?_
  refine L.guardv (v := (.pointer (some ⟨b1, 0, none⟩))) (wanted_yes rfl rfl rfl) (fun hg => (op_field rfl rfl fo28_0 rfl)) ?_
  refine L.guardv (v := (.int .i64 x.kind)) (wanted_yes rfl rfl rfl) (fun hg => (op_load1 rfl ((show _ = vif _ (.pointer (some ⟨b1, 0, none⟩)) from rfl).trans (vif_t hg).symm) one3 (hB1.cells.one (n := 0) rfl))) ?_
  refine L.guardv (v := (.bool (decide (x.kind = 4)))) (wanted_yes rfl rfl rfl) (fun hg => (op_eql rfl ((show _ = vif _ (.int .i64 x.kind) from rfl).trans (vif_t hg).symm) rfl)) ?_
  refine L.val rfl (op_and rfl rfl rfl rfl) ?_
  refine L.val rfl (op_move rfl rfl) ?_
  refine L.guardv (v := (.pointer (some ⟨b1, 2, none⟩))) (wanted_yes rfl rfl rfl) (fun hg => (op_field rfl rfl fo28_2 rfl)) ?_
  refine L.guardv (v := (.int .i64 x.round)) (wanted_yes rfl rfl rfl) (fun hg => (op_load1 rfl ((show _ = vif _ (.pointer (some ⟨b1, 2, none⟩)) from rfl).trans (vif_t hg).symm) one3 (hB1.cells.one (n := 2) rfl))) ?_
  refine L.guardv (v := (.pointer (some (p_o.add 1)))) (wanted_yes rfl rfl rfl) (fun hg => (op_field rfl rfl fo49_1 rfl)) ?_
  refine L.guardv (v := (.int .i64 o.round)) (wanted_yes rfl rfl rfl) (fun hg => (op_load1 rfl ((show _ = vif _ (.pointer (some (p_o.add 1))) from rfl).trans (vif_t hg).symm) one3 (hp_o.one (n := 1) rfl))) ?_
  refine L.guardv (v := (.bool (decide (x.round = o.round)))) (wanted_yes rfl rfl rfl) (fun hg => (op_eql rfl ((show _ = vif _ (.int .i64 x.round) from rfl).trans (vif_t hg).symm) ((show _ = vif _ (.int .i64 o.round) from rfl).trans (vif_t hg).symm))) ?_
  refine L.val rfl (op_and rfl rfl rfl rfl) ?_
  refine L.val rfl (op_move rfl rfl) ?_
  refine L.guardv (v := (.pointer (some ⟨b1, 3, none⟩))) (wanted_yes rfl rfl rfl) (fun hg => (op_field rfl rfl fo28_3 rfl)) ?_
  refine L.guardv (v := (.int .i64 x.choice)) (wanted_yes rfl rfl rfl) (fun hg => (op_load1 rfl ((show _ = vif _ (.pointer (some ⟨b1, 3, none⟩)) from rfl).trans (vif_t hg).symm) one3 (hB1.cells.one (n := 3) rfl))) ?_
  refine L.guardv (v := (.pointer (some (p_o.add 2)))) (wanted_yes rfl rfl rfl) (fun hg => (op_field rfl rfl fo49_2 rfl)) ?_
  refine L.guardv (v := (.int .i64 o.choice)) (wanted_yes rfl rfl rfl) (fun hg => (op_load1 rfl ((show _ = vif _ (.pointer (some (p_o.add 2))) from rfl).trans (vif_t hg).symm) one3 (hp_o.one (n := 2) rfl))) ?_
  refine L.guardv (v := (.bool (decide (x.choice = o.choice)))) (wanted_yes rfl rfl rfl) (fun hg => (op_eql rfl ((show _ = vif _ (.int .i64 x.choice) from rfl).trans (vif_t hg).symm) ((show _ = vif _ (.int .i64 o.choice) from rfl).trans (vif_t hg).symm))) ?_
  refine L.val rfl (op_and rfl rfl rfl rfl) ?_
  refine L.val rfl (op_move rfl rfl) ?_
  refine L.guardv (v := (.pointer (some ⟨b1, 14, none⟩))) (wanted_yes rfl rfl rfl) (fun hg => (op_field rfl rfl fo28_7 rfl)) ?_
  refine L.guardv (v := (Enc.val (x.value : Nm))) (wanted_yes rfl rfl rfl) (fun hg => (op_load (v := (x.value : Nm)) rfl ((show _ = vif _ (.pointer (some ⟨b1, 14, none⟩)) from rfl).trans (vif_t hg).symm) ty24 (sub_nm 14 hB1.cells rfl))) ?_
  refine L.guardv (v := (.pointer (some (p_o.add 3)))) (wanted_yes rfl rfl rfl) (fun hg => (op_field rfl rfl fo49_3 rfl)) ?_
  refine L.guardv (v := (Enc.val (o.value : Nm))) (wanted_yes rfl rfl rfl) (fun hg => (op_load (v := (o.value : Nm)) rfl ((show _ = vif _ (.pointer (some (p_o.add 3))) from rfl).trans (vif_t hg).symm) ty24 (sub_nm 3 hp_o rfl))) ?_
  refine L.guardv (v := (.bool (decide (x.value = o.value)))) (wanted_yes rfl rfl rfl) (fun hg => (op_eqle (a := (x.value : Nm)) (b := (o.value : Nm)) rfl ((show _ = vif _ (Enc.val (x.value : Nm)) from rfl).trans (vif_t hg).symm) ((show _ = vif _ (Enc.val (o.value : Nm)) from rfl).trans (vif_t hg).symm) eq24 (fun _ => ⟨_, rfl⟩) Try.eqGuardType24)) ?_
  refine L.val rfl (op_and rfl rfl rfl rfl) ?_
  refine L.val rfl (op_assign rfl rfl) ?_
  refine L.nil ?_
  refine thenF_nor ?_
  refine W.ret ?_
  exact end_ret1 (v := (.bool (((((decide (x.signer = i)) && (decide (x.kind = 4))) && (decide (x.round = o.round))) && (decide (x.choice = o.choice))) && (decide (x.value = o.value))))) rfl rfl ⟨by simp only [clo1_f], hE⟩

set_option maxRecDepth 100000 in
theorem clo2_ok {i : Nat} {j : Nat} {q_l : Addr} {A_l : Option Addr} {c_l lo_l hi_l : Nat} {l : List Vt}  {w : World} (hq_l : Cells w q_l [.slice A_l l.length c_l]) (hR_l : Rd w lo_l hi_l A_l l) (hi : i < l.length) (hj : j < l.length) : Gives Try.prog 73 #[(.int .i64 ((i : Nat) : Int)), (.int .i64 ((j : Nat) : Int)), (.pointer (some q_l))] w fun u w' => u = (.bool (voteLess_f l[i]! l[j]!)) ∧ Ext w w' := by
  have hE : Ext w w := Ext.refl w
  have hlen_l := hR_l.len
  refine gives_of_W Try.func73 rfl Try.ntmps73 rfl ?_
  refine W.seq ?_
  refine W.region (by rfl) ?_
  refine L.val (v := (.bool false)) rfl (op_assign rfl rfl) ?_
  refine L.nil ?_
  refine thenF_nor ?_
  refine W.seq ?_
  refine W.drawS [Sp.eq (.slice A_l l.length c_l), Sp.eq (.int .i64 ((i : Nat) : Int)), Sp.eq (.pointer (some ((adr A_l).add (i * 22)))), Sp.eq (Enc.val (l[i]! : Vt)), Sp.eq (.slice A_l l.length c_l), Sp.eq (.int .i64 ((j : Nat) : Int)), Sp.eq (.pointer (some ((adr A_l).add (j * 22)))), Sp.eq (Enc.val (l[j]! : Vt)), Sp.eq (.bool (voteLess_f (l[i]!) (l[j]!))), Sp.eq (.bool (voteLess_f (l[i]!) (l[j]!)))] mixed (by rfl) (Obls.cons ?_ (Obls.cons ?_ (Obls.cons ?_ (Obls.cons ?_ (Obls.cons ?_ (Obls.cons ?_ (Obls.cons ?_ (Obls.cons ?_ (Obls.cons ?_ (Obls.cons ?_ Obls.nil)))))))))) ?_
  · intro f2 w2 hx2 ho2 hd2
    have d2_s2 : f2 2 = (.pointer (some q_l)) := ho2 2 rfl
    have hq_l := hq_l.ext hx2
    have hR_l := hR_l.ext hx2
    exact D.val rfl (op_load1 rfl d2_s2 one25 (hq_l.one (n := 0) rfl))
  · intro f3 w3 hx3 ho3 hd3
    have d3_s0 : f3 0 = (.int .i64 ((i : Nat) : Int)) := ho3 0 rfl
    exact D.val rfl (op_move rfl d3_s0)
  · intro f4 w4 hx4 ho4 hd4
    have d4_0 : f4 6 = (.slice A_l l.length c_l) := hd4 0 rfl
    have d4_1 : f4 7 = (.int .i64 ((i : Nat) : Int)) := hd4 1 rfl
    have hq_l := hq_l.ext hx4
    have hR_l := hR_l.ext hx4
    skip
    exact D.val rfl (op_index (k := i) rfl d4_0 d4_1 sl25 (hR_l.getA (get_bang (l := l) (k := i) (by omega))).1 rfl (by omega) rfl)
  · intro f5 w5 hx5 ho5 hd5
    have d5_2 : f5 8 = (.pointer (some ((adr A_l).add (i * 22)))) := hd5 2 rfl
    have hq_l := hq_l.ext hx5
    have hR_l := hR_l.ext hx5
    skip
    exact D.val rfl (op_load (v := (l[i]! : Vt)) rfl d5_2 ty28 (hR_l.getA (get_bang (l := l) (k := i) (by omega))).2)
  · intro f6 w6 hx6 ho6 hd6
    have d6_s2 : f6 2 = (.pointer (some q_l)) := ho6 2 rfl
    have hq_l := hq_l.ext hx6
    have hR_l := hR_l.ext hx6
    exact D.val rfl (op_load1 rfl d6_s2 one25 (hq_l.one (n := 0) rfl))
  · intro f7 w7 hx7 ho7 hd7
    have d7_s1 : f7 1 = (.int .i64 ((j : Nat) : Int)) := ho7 1 rfl
    exact D.val rfl (op_move rfl d7_s1)
  · intro f8 w8 hx8 ho8 hd8
    have d8_4 : f8 10 = (.slice A_l l.length c_l) := hd8 4 rfl
    have d8_5 : f8 11 = (.int .i64 ((j : Nat) : Int)) := hd8 5 rfl
    have hq_l := hq_l.ext hx8
    have hR_l := hR_l.ext hx8
    skip
    exact D.val rfl (op_index (k := j) rfl d8_4 d8_5 sl25 (hR_l.getA (get_bang (l := l) (k := j) (by omega))).1 rfl (by omega) rfl)
  · intro f9 w9 hx9 ho9 hd9
    have d9_6 : f9 12 = (.pointer (some ((adr A_l).add (j * 22)))) := hd9 6 rfl
    have hq_l := hq_l.ext hx9
    have hR_l := hR_l.ext hx9
    skip
    exact D.val rfl (op_load (v := (l[j]! : Vt)) rfl d9_6 ty28 (hR_l.getA (get_bang (l := l) (k := j) (by omega))).2)
  · intro f10 w10 hx10 ho10 hd10
    have d10_3 : f10 9 = (Enc.val (l[i]! : Vt)) := hd10 3 rfl
    have d10_7 : f10 13 = (Enc.val (l[j]! : Vt)) := hd10 7 rfl
    have hq_l := hq_l.ext hx10
    have hR_l := hR_l.ext hx10
    exact D.call (R := (Sp.eq (.bool (voteLess_f (l[i]!) (l[j]!)))).p) rfl (OpS.call (op_call rfl (argsC d10_3 (argsC d10_7 argsN)) Try.func21 rfl rfl) voteLess_ok)
  · intro f11 w11 hx11 ho11 hd11
    have d11_8 : f11 14 = (.bool (voteLess_f (l[i]!) (l[j]!))) := hd11 8 rfl
    exact D.val rfl (op_assign rfl d11_8)
  intro f12 w12 hx12 ho12 hr12
  have s0 : f12 0 = (.int .i64 ((i : Nat) : Int)) := ho12 0 rfl
  have s1 : f12 1 = (.int .i64 ((j : Nat) : Int)) := ho12 1 rfl
  have s2 : f12 2 = (.pointer (some q_l)) := ho12 2 rfl
  have s5 : f12 5 = (.bool (voteLess_f (l[i]!) (l[j]!))) := hr12 9 (by decide)
  have hE := hE.trans hx12
  have hq_l := hq_l.ext hx12
  have hR_l := hR_l.ext hx12
  refine thenF_nor ?_
  refine W.ret ?_
  exact end_ret1 (v := (.bool (voteLess_f (l[i]!) (l[j]!)))) rfl s5 ⟨rfl, hE⟩

end Go.Proofs.Ytdknjfmjddlphaa
