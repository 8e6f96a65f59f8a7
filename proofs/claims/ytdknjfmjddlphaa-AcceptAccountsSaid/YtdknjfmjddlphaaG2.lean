/-
  Contracts of functions of the program, each with its walk in the logic of frames. Printed by a program of this session (wip/gen) from the translation.
-/
import Derived.Test.YtdknjfmjddlphaaG1
set_option linter.unusedSimpArgs false
set_option linter.unusedVariables false
namespace Go.Proofs.Ytdknjfmjddlphaa
open Go Go.Fk

def allowed1_f (x : Vt) (v : Vt) : Bool := (decide (x.kind = 1)) && (same_f v x)
set_option maxRecDepth 100000 in
theorem allowed1_ok {x : Vt} {p_v : Addr} {v : Vt}  {w : World} (hp_v : Cells w p_v (Enc.cells v)) : Gives Try.prog 56 #[(Enc.val (x : Vt)), (.pointer (some p_v))] w fun u w' => u = (.bool (allowed1_f x v)) ∧ Ext w w' := by
  have hE : Ext w w := Ext.refl w
  refine gives_of_W Try.func56 rfl Try.ntmps56 rfl ?_
  refine W.seq ?_
  refine W.region (by rfl) ?_
  refine L.step rfl (op_box (cs := (Enc.cells (x : Vt))) rfl rfl rfl) ?_
  rintro _ w1 ⟨b1, rfl, hb1, hB1, hx1⟩
  have hE := hE.trans hx1
  have hp_v := hp_v.ext hx1
  refine L.val (v := (.bool false)) rfl (op_assign rfl rfl) ?_
  refine L.nil ?_
  refine thenF_nor ?_
  refine W.seq ?_
  refine W.region (by rfl) ?_
  refine L.val rfl (op_field rfl rfl fo28_0 rfl) ?_
  refine L.val rfl (op_load1 rfl rfl one3 (hB1.cells.one (n := 0) rfl)) ?_
  refine L.val rfl (op_eql rfl rfl rfl) ?_
  refine L.val rfl (op_move rfl rfl) ?_
  refine L.guardv (v := (Enc.val (v : Vt))) (wanted_yes rfl rfl rfl) (fun hg => (op_load (v := (v : Vt)) rfl rfl ty28 hp_v)) ?_
  refine L.guardv (v := (Enc.val (x : Vt))) (wanted_yes rfl rfl rfl) (fun hg => (op_load (v := (x : Vt)) rfl rfl ty28 hB1.cells)) ?_
  refine L.guardc (v := (.bool (same_f v x))) (wanted_yes rfl rfl rfl) (fun hg => (OpS.call (op_call rfl (argsC ((show _ = vif _ (Enc.val (v : Vt)) from rfl).trans (vif_t hg).symm) (argsC ((show _ = vif _ (Enc.val (x : Vt)) from rfl).trans (vif_t hg).symm) argsN)) Try.func57 rfl rfl) same_ok)) ?_
  intro w2 hx2
  have hE := hE.trans hx2
  have hp_v := hp_v.ext hx2
  have hB1 := hB1.ext hx2
  refine L.val rfl (op_and rfl rfl rfl rfl) ?_
  refine L.val rfl (op_assign rfl rfl) ?_
  refine L.nil ?_
  refine thenF_nor ?_
  refine W.ret ?_
  exact end_ret1 (v := (.bool ((decide (x.kind = 1)) && (same_f v x)))) rfl rfl ⟨by simp only [allowed1_f], hE⟩

def prevote1_f (x : Vt) (v : Vt) : Bool := (decide (x.kind = 2)) && (same_f v x)
set_option maxRecDepth 100000 in
theorem prevote1_ok {x : Vt} {p_v : Addr} {v : Vt}  {w : World} (hp_v : Cells w p_v (Enc.cells v)) : Gives Try.prog 77 #[(Enc.val (x : Vt)), (.pointer (some p_v))] w fun u w' => u = (.bool (prevote1_f x v)) ∧ Ext w w' := by
  have hE : Ext w w := Ext.refl w
  refine gives_of_W Try.func77 rfl Try.ntmps77 rfl ?_
  refine W.seq ?_
  refine W.region (by rfl) ?_
  refine L.step rfl (op_box (cs := (Enc.cells (x : Vt))) rfl rfl rfl) ?_
  rintro _ w1 ⟨b1, rfl, hb1, hB1, hx1⟩
  have hE := hE.trans hx1
  have hp_v := hp_v.ext hx1
  refine L.val (v := (.bool false)) rfl (op_assign rfl rfl) ?_
  refine L.nil ?_
  refine thenF_nor ?_
  refine W.seq ?_
  refine W.region (by rfl) ?_
  refine L.val rfl (op_field rfl rfl fo28_0 rfl) ?_
  refine L.val rfl (op_load1 rfl rfl one3 (hB1.cells.one (n := 0) rfl)) ?_
  refine L.val rfl (op_eql rfl rfl rfl) ?_
  refine L.val rfl (op_move rfl rfl) ?_
  refine L.guardv (v := (Enc.val (v : Vt))) (wanted_yes rfl rfl rfl) (fun hg => (op_load (v := (v : Vt)) rfl rfl ty28 hp_v)) ?_
  refine L.guardv (v := (Enc.val (x : Vt))) (wanted_yes rfl rfl rfl) (fun hg => (op_load (v := (x : Vt)) rfl rfl ty28 hB1.cells)) ?_
  refine L.guardc (v := (.bool (same_f v x))) (wanted_yes rfl rfl rfl) (fun hg => (OpS.call (op_call rfl (argsC ((show _ = vif _ (Enc.val (v : Vt)) from rfl).trans (vif_t hg).symm) (argsC ((show _ = vif _ (Enc.val (x : Vt)) from rfl).trans (vif_t hg).symm) argsN)) Try.func57 rfl rfl) same_ok)) ?_
  intro w2 hx2
  have hE := hE.trans hx2
  have hp_v := hp_v.ext hx2
  have hB1 := hB1.ext hx2
  refine L.val rfl (op_and rfl rfl rfl rfl) ?_
  refine L.val rfl (op_assign rfl rfl) ?_
  refine L.nil ?_
  refine thenF_nor ?_
  refine W.ret ?_
  exact end_ret1 (v := (.bool ((decide (x.kind = 2)) && (same_f v x)))) rfl rfl ⟨by simp only [prevote1_f], hE⟩

def prevote2_f (x : Vt) (v : Vt) : Bool := ((decide (x.kind = 4)) && (decide (x.round = (v.round - 1)))) && (same_f v x)
set_option maxRecDepth 100000 in
theorem prevote2_ok {x : Vt} {p_v : Addr} {v : Vt}  {w : World} (hp_v : Cells w p_v (Enc.cells v)) (h0 : 0 ≤ v.round) (h1 : v.round ≤ 100) : Gives Try.prog 78 #[(Enc.val (x : Vt)), (.pointer (some p_v))] w fun u w' => u = (.bool (prevote2_f x v)) ∧ Ext w w' := by
  have hE : Ext w w := Ext.refl w
  refine gives_of_W Try.func78 rfl Try.ntmps78 rfl ?_
  refine W.seq ?_
  refine W.region (by rfl) ?_
  refine L.step rfl (op_box (cs := (Enc.cells (x : Vt))) rfl rfl rfl) ?_
  rintro _ w1 ⟨b1, rfl, hb1, hB1, hx1⟩
  have hE := hE.trans hx1
  have hp_v := hp_v.ext hx1
  refine L.val (v := (.bool false)) rfl (op_assign rfl rfl) ?_
  refine L.nil ?_
  refine thenF_nor ?_
  refine W.seq ?_
  refine W.region (by rfl) ?_
  refine L.val rfl (op_field rfl rfl fo28_0 rfl) ?_
  refine L.val rfl (op_load1 rfl rfl one3 (hB1.cells.one (n := 0) rfl)) ?_
  refine L.val rfl (op_eql rfl rfl rfl) ?_
  refine L.val rfl (op_move rfl rfl) ?_
  refine L.guardv (v := (.pointer (some ⟨b1, 2, none⟩))) (wanted_yes rfl rfl rfl) (fun hg => (op_field rfl rfl fo28_2 rfl)) ?_
  refine L.guardv (v := (.int .i64 x.round)) (wanted_yes rfl rfl rfl) (fun hg => (op_load1 rfl ((show _ = vif _ (.pointer (some ⟨b1, 2, none⟩)) from rfl).trans (vif_t hg).symm) one3 (hB1.cells.one (n := 2) rfl))) ?_
  refine L.guardv (v := (.pointer (some (p_v.add 2)))) (wanted_yes rfl rfl rfl) (fun hg => (op_field rfl rfl fo28_2 rfl)) ?_
  refine L.guardv (v := (.int .i64 v.round)) (wanted_yes rfl rfl rfl) (fun hg => (op_load1 rfl ((show _ = vif _ (.pointer (some (p_v.add 2))) from rfl).trans (vif_t hg).symm) one3 (hp_v.one (n := 2) rfl))) ?_
  refine L.guardv (v := (.int .i64 (v.round - 1))) (wanted_yes rfl rfl rfl) (fun hg => (op_sub rfl ((show _ = vif _ (.int .i64 v.round) from rfl).trans (vif_t hg).symm) rfl rfl (by omega))) ?_
  refine L.guardv (v := (.bool (decide (x.round = (v.round - 1))))) (wanted_yes rfl rfl rfl) (fun hg => (op_eql rfl ((show _ = vif _ (.int .i64 x.round) from rfl).trans (vif_t hg).symm) ((show _ = vif _ (.int .i64 (v.round - 1)) from rfl).trans (vif_t hg).symm))) ?_
  refine L.val rfl (op_and rfl rfl rfl rfl) ?_
  refine L.val rfl (op_move rfl rfl) ?_
  refine L.guardv (v := (Enc.val (v : Vt))) (wanted_yes rfl rfl rfl) (fun hg => (op_load (v := (v : Vt)) rfl rfl ty28 hp_v)) ?_
  refine L.guardv (v := (Enc.val (x : Vt))) (wanted_yes rfl rfl rfl) (fun hg => (op_load (v := (x : Vt)) rfl rfl ty28 hB1.cells)) ?_
  refine L.guardc (v := (.bool (same_f v x))) (wanted_yes rfl rfl rfl) (fun hg => (OpS.call (op_call rfl (argsC ((show _ = vif _ (Enc.val (v : Vt)) from rfl).trans (vif_t hg).symm) (argsC ((show _ = vif _ (Enc.val (x : Vt)) from rfl).trans (vif_t hg).symm) argsN)) Try.func57 rfl rfl) same_ok)) ?_
  intro w2 hx2
  have hE := hE.trans hx2
  have hp_v := hp_v.ext hx2
  have hB1 := hB1.ext hx2
  refine L.val rfl (op_and rfl rfl rfl rfl) ?_
  refine L.val rfl (op_assign rfl rfl) ?_
  refine L.nil ?_
  refine thenF_nor ?_
  refine W.ret ?_
  exact end_ret1 (v := (.bool (((decide (x.kind = 4)) && (decide (x.round = (v.round - 1)))) && (same_f v x)))) rfl rfl ⟨by simp only [prevote2_f], hE⟩

def prevote3_f (x : Vt) (v : Vt) : Bool := ((decide (x.kind = 4)) && (decide (x.round = (v.round - 1)))) && (decide (x.choice = 2))
set_option maxRecDepth 100000 in
theorem prevote3_ok {x : Vt} {p_v : Addr} {v : Vt}  {w : World} (hp_v : Cells w p_v (Enc.cells v)) (h0 : 0 ≤ v.round) (h1 : v.round ≤ 100) : Gives Try.prog 79 #[(Enc.val (x : Vt)), (.pointer (some p_v))] w fun u w' => u = (.bool (prevote3_f x v)) ∧ Ext w w' := by
  have hE : Ext w w := Ext.refl w
  refine gives_of_W Try.func79 rfl Try.ntmps79 rfl ?_
  refine W.seq ?_
  refine W.region (by rfl) ?_
  refine L.step rfl (op_box (cs := (Enc.cells (x : Vt))) rfl rfl rfl) ?_
  rintro _ w1 ⟨b1, rfl, hb1, hB1, hx1⟩
  have hE := hE.trans hx1
  have hp_v := hp_v.ext hx1
  refine L.val (v := (.bool false)) rfl (op_assign rfl rfl) ?_
  refine L.nil ?_
  refine thenF_nor ?_
  refine W.seq ?_
  refine W.region (by rfl) ?_
  refine L.val rfl (op_field rfl rfl fo28_0 rfl) ?_
  refine L.val rfl (op_load1 rfl rfl one3 (hB1.cells.one (n := 0) rfl)) ?_
  refine L.val rfl (op_eql rfl rfl rfl) ?_
  refine L.val rfl (op_move rfl rfl) ?_
  refine L.guardv (v := (.pointer (some ⟨b1, 2, none⟩))) (wanted_yes rfl rfl rfl) (fun hg => (op_field rfl rfl fo28_2 rfl)) ?_
  refine L.guardv (v := (.int .i64 x.round)) (wanted_yes rfl rfl rfl) (fun hg => (op_load1 rfl ((show _ = vif _ (.pointer (some ⟨b1, 2, none⟩)) from rfl).trans (vif_t hg).symm) one3 (hB1.cells.one (n := 2) rfl))) ?_
  refine L.guardv (v := (.pointer (some (p_v.add 2)))) (wanted_yes rfl rfl rfl) (fun hg => (op_field rfl rfl fo28_2 rfl)) ?_
  refine L.guardv (v := (.int .i64 v.round)) (wanted_yes rfl rfl rfl) (fun hg => (op_load1 rfl ((show _ = vif _ (.pointer (some (p_v.add 2))) from rfl).trans (vif_t hg).symm) one3 (hp_v.one (n := 2) rfl))) ?_
  refine L.guardv (v := (.int .i64 (v.round - 1))) (wanted_yes rfl rfl rfl) (fun hg => (op_sub rfl ((show _ = vif _ (.int .i64 v.round) from rfl).trans (vif_t hg).symm) rfl rfl (by omega))) ?_
  refine L.guardv (v := (.bool (decide (x.round = (v.round - 1))))) (wanted_yes rfl rfl rfl) (fun hg => (op_eql rfl ((show _ = vif _ (.int .i64 x.round) from rfl).trans (vif_t hg).symm) ((show _ = vif _ (.int .i64 (v.round - 1)) from rfl).trans (vif_t hg).symm))) ?_
  refine L.val rfl (op_and rfl rfl rfl rfl) ?_
  refine L.val rfl (op_move rfl rfl) ?_
  refine L.guardv (v := (.pointer (some ⟨b1, 3, none⟩))) (wanted_yes rfl rfl rfl) (fun hg => (op_field rfl rfl fo28_3 rfl)) ?_
  refine L.guardv (v := (.int .i64 x.choice)) (wanted_yes rfl rfl rfl) (fun hg => (op_load1 rfl ((show _ = vif _ (.pointer (some ⟨b1, 3, none⟩)) from rfl).trans (vif_t hg).symm) one3 (hB1.cells.one (n := 3) rfl))) ?_
  refine L.guardv (v := (.bool (decide (x.choice = 2)))) (wanted_yes rfl rfl rfl) (fun hg => (op_eql rfl ((show _ = vif _ (.int .i64 x.choice) from rfl).trans (vif_t hg).symm) rfl)) ?_
  refine L.val rfl (op_and rfl rfl rfl rfl) ?_
  refine L.val rfl (op_assign rfl rfl) ?_
  refine L.nil ?_
  refine thenF_nor ?_
  refine W.ret ?_
  exact end_ret1 (v := (.bool (((decide (x.kind = 4)) && (decide (x.round = (v.round - 1)))) && (decide (x.choice = 2))))) rfl rfl ⟨by simp only [prevote3_f], hE⟩

def prevote4_f (x : Vt) (pa : Vt → Bool) (pb : Vt → Bool) : Bool := (pa x) || (pb x)
set_option maxRecDepth 100000 in
theorem prevote4_ok {x : Vt} {q_pa : Addr} {fv_pa : Value} {pa : Vt → Bool} {q_pb : Addr} {fv_pb : Value} {pb : Vt → Bool}  {w : World} (hq_pa : Cells w q_pa [fv_pa]) (hf_pa : Fits Try.prog w fv_pa pa) (hq_pb : Cells w q_pb [fv_pb]) (hf_pb : Fits Try.prog w fv_pb pb) : Gives Try.prog 80 #[(Enc.val (x : Vt)), (.pointer (some q_pa)), (.pointer (some q_pb))] w fun u w' => u = (.bool (prevote4_f x pa pb)) ∧ Ext w w' := by
  have hE : Ext w w := Ext.refl w
  refine gives_of_W Try.func80 rfl Try.ntmps80 rfl ?_
  refine W.seq ?_
  refine W.region (by rfl) ?_
  refine L.step rfl (op_box (cs := (Enc.cells (x : Vt))) rfl rfl rfl) ?_
  rintro _ w1 ⟨b1, rfl, hb1, hB1, hx1⟩
  have hE := hE.trans hx1
  have hq_pa := hq_pa.ext hx1
  have hf_pa := hf_pa.ext hx1
  have hq_pb := hq_pb.ext hx1
  have hf_pb := hf_pb.ext hx1
  refine L.val (v := (.bool false)) rfl (op_assign rfl rfl) ?_
  refine L.nil ?_
  refine thenF_nor ?_
  refine W.seq ?_
  refine W.region (by rfl) ?_
  refine L.val rfl (op_load1 rfl rfl one65 (hq_pa.one (n := 0) rfl)) ?_
  refine L.val rfl (op_load (v := (x : Vt)) rfl rfl ty28 hB1.cells) ?_
  refine L.call (v := (.bool (pa x))) rfl (op_fits (a := (x : Vt)) hf_pa rfl rfl rfl) ?_
  intro w2 hx2
  have hE := hE.trans hx2
  have hq_pa := hq_pa.ext hx2
  have hf_pa := hf_pa.ext hx2
  have hq_pb := hq_pb.ext hx2
  have hf_pb := hf_pb.ext hx2
  have hB1 := hB1.ext hx2
  refine L.val rfl (op_move rfl rfl) ?_
  refine L.guardv (v := fv_pb) (wanted_no rfl rfl rfl) (fun hg => (op_load1 rfl rfl one65 (hq_pb.one (n := 0) rfl))) ?_
  refine L.guardv (v := (Enc.val (x : Vt))) (wanted_no rfl rfl rfl) (fun hg => (op_load (v := (x : Vt)) rfl rfl ty28 hB1.cells)) ?_
  refine L.guardc (v := (.bool (pb x))) (wanted_no rfl rfl rfl) (fun hg => (op_fits (a := (x : Vt)) hf_pb rfl ((show _ = vif _ fv_pb from rfl).trans (vif_t hg).symm) ((show _ = vif _ (Enc.val (x : Vt)) from rfl).trans (vif_t hg).symm))) ?_
  intro w3 hx3
  have hE := hE.trans hx3
  have hq_pa := hq_pa.ext hx3
  have hf_pa := hf_pa.ext hx3
  have hq_pb := hq_pb.ext hx3
  have hf_pb := hf_pb.ext hx3
  have hB1 := hB1.ext hx3
  refine L.val rfl (op_or rfl rfl rfl rfl) ?_
  refine L.val rfl (op_assign rfl rfl) ?_
  refine L.nil ?_
  refine thenF_nor ?_
  refine W.ret ?_
  exact end_ret1 (v := (.bool ((pa x) || (pb x)))) rfl rfl ⟨by simp only [prevote4_f], hE⟩

def prevote5_f (x : Vt) (v : Vt) (pa : Vt → Bool) : Bool := (has_f v.support x.signer) && (pa x)
set_option maxRecDepth 100000 in
theorem prevote5_ok {x : Vt} {p_v : Addr} {v : Vt} {q_pa : Addr} {fv_pa : Value} {pa : Vt → Bool}  {w : World} (hp_v : Cells w p_v (Enc.cells v)) (hq_pa : Cells w q_pa [fv_pa]) (hf_pa : Fits Try.prog w fv_pa pa) : Gives Try.prog 81 #[(Enc.val (x : Vt)), (.pointer (some p_v)), (.pointer (some q_pa))] w fun u w' => u = (.bool (prevote5_f x v pa)) ∧ Ext w w' := by
  have hE : Ext w w := Ext.refl w
  refine gives_of_W Try.func81 rfl Try.ntmps81 rfl ?_
  refine W.seq ?_
  refine W.region (by rfl) ?_
  refine L.step rfl (op_box (cs := (Enc.cells (x : Vt))) rfl rfl rfl) ?_
  rintro _ w1 ⟨b1, rfl, hb1, hB1, hx1⟩
  have hE := hE.trans hx1
  have hp_v := hp_v.ext hx1
  have hq_pa := hq_pa.ext hx1
  have hf_pa := hf_pa.ext hx1
  refine L.val (v := (.bool false)) rfl (op_assign rfl rfl) ?_
  refine L.nil ?_
  refine thenF_nor ?_
  refine W.seq ?_
  refine W.region (by rfl) ?_
  refine L.val rfl (op_field rfl rfl fo28_5 rfl) ?_
  refine L.val rfl (op_load1 rfl rfl one22 (hp_v.one (n := 5) rfl)) ?_
  refine L.val rfl (op_field rfl rfl fo28_4 rfl) ?_
  refine L.val rfl (op_load1 rfl rfl one3 (hB1.cells.one (n := 4) rfl)) ?_
  refine L.call (v := (.bool (has_f v.support x.signer))) rfl (OpS.call (op_call rfl (argsC rfl (argsC rfl argsN)) Try.func54 rfl rfl) Has_ok) ?_
  intro w2 hx2
  have hE := hE.trans hx2
  have hp_v := hp_v.ext hx2
  have hq_pa := hq_pa.ext hx2
  have hf_pa := hf_pa.ext hx2
  have hB1 := hB1.ext hx2
  refine L.val rfl (op_move rfl rfl) ?_
  refine L.guardv (v := fv_pa) (wanted_yes rfl rfl rfl) (fun hg => (op_load1 rfl rfl one65 (hq_pa.one (n := 0) rfl))) ?_
  refine L.guardv (v := (Enc.val (x : Vt))) (wanted_yes rfl rfl rfl) (fun hg => (op_load (v := (x : Vt)) rfl rfl ty28 hB1.cells)) ?_
  refine L.guardc (v := (.bool (pa x))) (wanted_yes rfl rfl rfl) (fun hg => (op_fits (a := (x : Vt)) hf_pa rfl ((show _ = vif _ fv_pa from rfl).trans (vif_t hg).symm) ((show _ = vif _ (Enc.val (x : Vt)) from rfl).trans (vif_t hg).symm))) ?_
  intro w3 hx3
  have hE := hE.trans hx3
  have hp_v := hp_v.ext hx3
  have hq_pa := hq_pa.ext hx3
  have hf_pa := hf_pa.ext hx3
  have hB1 := hB1.ext hx3
  refine L.val rfl (op_and rfl rfl rfl rfl) ?_
  refine L.val rfl (op_assign rfl rfl) ?_
  refine L.nil ?_
  refine thenF_nor ?_
  refine W.ret ?_
  exact end_ret1 (v := (.bool ((has_f v.support x.signer) && (pa x)))) rfl rfl ⟨by simp only [prevote5_f], hE⟩

def prevote6_f (x : Vt) (v : Vt) : Bool := ((decide (x.kind = 3)) && (decide (x.round = (v.round - 1)))) && (same_f v x)
set_option maxRecDepth 100000 in
theorem prevote6_ok {x : Vt} {p_v : Addr} {v : Vt}  {w : World} (hp_v : Cells w p_v (Enc.cells v)) (h0 : 0 ≤ v.round) (h1 : v.round ≤ 100) : Gives Try.prog 82 #[(Enc.val (x : Vt)), (.pointer (some p_v))] w fun u w' => u = (.bool (prevote6_f x v)) ∧ Ext w w' := by
  have hE : Ext w w := Ext.refl w
  refine gives_of_W Try.func82 rfl Try.ntmps82 rfl ?_
  refine W.seq ?_
  refine W.region (by rfl) ?_
  refine L.step rfl (op_box (cs := (Enc.cells (x : Vt))) rfl rfl rfl) ?_
  rintro _ w1 ⟨b1, rfl, hb1, hB1, hx1⟩
  have hE := hE.trans hx1
  have hp_v := hp_v.ext hx1
  refine L.val (v := (.bool false)) rfl (op_assign rfl rfl) ?_
  refine L.nil ?_
  refine thenF_nor ?_
  refine W.seq ?_
  refine W.region (by rfl) ?_
  refine L.val rfl (op_field rfl rfl fo28_0 rfl) ?_
  refine L.val rfl (op_load1 rfl rfl one3 (hB1.cells.one (n := 0) rfl)) ?_
  refine L.val rfl (op_eql rfl rfl rfl) ?_
  refine L.val rfl (op_move rfl rfl) ?_
  refine L.guardv (v := (.pointer (some ⟨b1, 2, none⟩))) (wanted_yes rfl rfl rfl) (fun hg => (op_field rfl rfl fo28_2 rfl)) ?_
  refine L.guardv (v := (.int .i64 x.round)) (wanted_yes rfl rfl rfl) (fun hg => (op_load1 rfl ((show _ = vif _ (.pointer (some ⟨b1, 2, none⟩)) from rfl).trans (vif_t hg).symm) one3 (hB1.cells.one (n := 2) rfl))) ?_
  refine L.guardv (v := (.pointer (some (p_v.add 2)))) (wanted_yes rfl rfl rfl) (fun hg => (op_field rfl rfl fo28_2 rfl)) ?_
  refine L.guardv (v := (.int .i64 v.round)) (wanted_yes rfl rfl rfl) (fun hg => (op_load1 rfl ((show _ = vif _ (.pointer (some (p_v.add 2))) from rfl).trans (vif_t hg).symm) one3 (hp_v.one (n := 2) rfl))) ?_
  refine L.guardv (v := (.int .i64 (v.round - 1))) (wanted_yes rfl rfl rfl) (fun hg => (op_sub rfl ((show _ = vif _ (.int .i64 v.round) from rfl).trans (vif_t hg).symm) rfl rfl (by omega))) ?_
  refine L.guardv (v := (.bool (decide (x.round = (v.round - 1))))) (wanted_yes rfl rfl rfl) (fun hg => (op_eql rfl ((show _ = vif _ (.int .i64 x.round) from rfl).trans (vif_t hg).symm) ((show _ = vif _ (.int .i64 (v.round - 1)) from rfl).trans (vif_t hg).symm))) ?_
  refine L.val rfl (op_and rfl rfl rfl rfl) ?_
  refine L.val rfl (op_move rfl rfl) ?_
  refine L.guardv (v := (Enc.val (v : Vt))) (wanted_yes rfl rfl rfl) (fun hg => (op_load (v := (v : Vt)) rfl rfl ty28 hp_v)) ?_
  refine L.guardv (v := (Enc.val (x : Vt))) (wanted_yes rfl rfl rfl) (fun hg => (op_load (v := (x : Vt)) rfl rfl ty28 hB1.cells)) ?_
  refine L.guardc (v := (.bool (same_f v x))) (wanted_yes rfl rfl rfl) (fun hg => (OpS.call (op_call rfl (argsC ((show _ = vif _ (Enc.val (v : Vt)) from rfl).trans (vif_t hg).symm) (argsC ((show _ = vif _ (Enc.val (x : Vt)) from rfl).trans (vif_t hg).symm) argsN)) Try.func57 rfl rfl) same_ok)) ?_
  intro w2 hx2
  have hE := hE.trans hx2
  have hp_v := hp_v.ext hx2
  have hB1 := hB1.ext hx2
  refine L.val rfl (op_and rfl rfl rfl rfl) ?_
  refine L.val rfl (op_assign rfl rfl) ?_
  refine L.nil ?_
  refine thenF_nor ?_
  refine W.ret ?_
  exact end_ret1 (v := (.bool (((decide (x.kind = 3)) && (decide (x.round = (v.round - 1)))) && (same_f v x)))) rfl rfl ⟨by simp only [prevote6_f], hE⟩

def precommit1_f (x : Vt) (v : Vt) : Bool := (decide (x.kind = 3)) && (decide (x.round = v.round))
set_option maxRecDepth 100000 in
theorem precommit1_ok {x : Vt} {p_v : Addr} {v : Vt}  {w : World} (hp_v : Cells w p_v (Enc.cells v)) : Gives Try.prog 83 #[(Enc.val (x : Vt)), (.pointer (some p_v))] w fun u w' => u = (.bool (precommit1_f x v)) ∧ Ext w w' := by
  have hE : Ext w w := Ext.refl w
  refine gives_of_W Try.func83 rfl Try.ntmps83 rfl ?_
  refine W.seq ?_
  refine W.region (by rfl) ?_
  refine L.step rfl (op_box (cs := (Enc.cells (x : Vt))) rfl rfl rfl) ?_
  rintro _ w1 ⟨b1, rfl, hb1, hB1, hx1⟩
  have hE := hE.trans hx1
  have hp_v := hp_v.ext hx1
  refine L.val (v := (.bool false)) rfl (op_assign rfl rfl) ?_
  refine L.nil ?_
  refine thenF_nor ?_
  refine W.seq ?_
  refine W.region (by rfl) ?_
  refine L.val rfl (op_field rfl rfl fo28_0 rfl) ?_
  refine L.val rfl (op_load1 rfl rfl one3 (hB1.cells.one (n := 0) rfl)) ?_
  refine L.val rfl (op_eql rfl rfl rfl) ?_
  refine L.val rfl (op_move rfl rfl) ?_
  refine L.guardv (v := (.pointer (some ⟨b1, 2, none⟩))) (wanted_yes rfl rfl rfl) (fun hg => (op_field rfl rfl fo28_2 rfl)) ?_
  refine L.guardv (v := (.int .i64 x.round)) (wanted_yes rfl rfl rfl) (fun hg => (op_load1 rfl ((show _ = vif _ (.pointer (some ⟨b1, 2, none⟩)) from rfl).trans (vif_t hg).symm) one3 (hB1.cells.one (n := 2) rfl))) ?_
  refine L.guardv (v := (.pointer (some (p_v.add 2)))) (wanted_yes rfl rfl rfl) (fun hg => (op_field rfl rfl fo28_2 rfl)) ?_
  refine L.guardv (v := (.int .i64 v.round)) (wanted_yes rfl rfl rfl) (fun hg => (op_load1 rfl ((show _ = vif _ (.pointer (some (p_v.add 2))) from rfl).trans (vif_t hg).symm) one3 (hp_v.one (n := 2) rfl))) ?_
  refine L.guardv (v := (.bool (decide (x.round = v.round)))) (wanted_yes rfl rfl rfl) (fun hg => (op_eql rfl ((show _ = vif _ (.int .i64 x.round) from rfl).trans (vif_t hg).symm) ((show _ = vif _ (.int .i64 v.round) from rfl).trans (vif_t hg).symm))) ?_
  refine L.val rfl (op_and rfl rfl rfl rfl) ?_
  refine L.val rfl (op_assign rfl rfl) ?_
  refine L.nil ?_
  refine thenF_nor ?_
  refine W.ret ?_
  exact end_ret1 (v := (.bool ((decide (x.kind = 3)) && (decide (x.round = v.round))))) rfl rfl ⟨by simp only [precommit1_f], hE⟩

def precommit2_f (x : Vt) (pa : Vt → Bool) (v : Vt) : Bool := (pa x) && (same_f v x)
set_option maxRecDepth 100000 in
theorem precommit2_ok {x : Vt} {q_pa : Addr} {fv_pa : Value} {pa : Vt → Bool} {p_v : Addr} {v : Vt}  {w : World} (hq_pa : Cells w q_pa [fv_pa]) (hf_pa : Fits Try.prog w fv_pa pa) (hp_v : Cells w p_v (Enc.cells v)) : Gives Try.prog 84 #[(Enc.val (x : Vt)), (.pointer (some q_pa)), (.pointer (some p_v))] w fun u w' => u = (.bool (precommit2_f x pa v)) ∧ Ext w w' := by
  have hE : Ext w w := Ext.refl w
  refine gives_of_W Try.func84 rfl Try.ntmps84 rfl ?_
  refine W.seq ?_
  refine W.region (by rfl) ?_
  refine L.step rfl (op_box (cs := (Enc.cells (x : Vt))) rfl rfl rfl) ?_
  rintro _ w1 ⟨b1, rfl, hb1, hB1, hx1⟩
  have hE := hE.trans hx1
  have hq_pa := hq_pa.ext hx1
  have hf_pa := hf_pa.ext hx1
  have hp_v := hp_v.ext hx1
  refine L.val (v := (.bool false)) rfl (op_assign rfl rfl) ?_
  refine L.nil ?_
  refine thenF_nor ?_
  refine W.seq ?_
  refine W.region (by rfl) ?_
  refine L.val rfl (op_load1 rfl rfl one65 (hq_pa.one (n := 0) rfl)) ?_
  refine L.val rfl (op_load (v := (x : Vt)) rfl rfl ty28 hB1.cells) ?_
  refine L.call (v := (.bool (pa x))) rfl (op_fits (a := (x : Vt)) hf_pa rfl rfl rfl) ?_
  intro w2 hx2
  have hE := hE.trans hx2
  have hq_pa := hq_pa.ext hx2
  have hf_pa := hf_pa.ext hx2
  have hp_v := hp_v.ext hx2
  have hB1 := hB1.ext hx2
  refine L.val rfl (op_move rfl rfl) ?_
  refine L.guardv (v := (Enc.val (v : Vt))) (wanted_yes rfl rfl rfl) (fun hg => (op_load (v := (v : Vt)) rfl rfl ty28 hp_v)) ?_
  refine L.guardv (v := (Enc.val (x : Vt))) (wanted_yes rfl rfl rfl) (fun hg => (op_load (v := (x : Vt)) rfl rfl ty28 hB1.cells)) ?_
  refine L.guardc (v := (.bool (same_f v x))) (wanted_yes rfl rfl rfl) (fun hg => (OpS.call (op_call rfl (argsC ((show _ = vif _ (Enc.val (v : Vt)) from rfl).trans (vif_t hg).symm) (argsC ((show _ = vif _ (Enc.val (x : Vt)) from rfl).trans (vif_t hg).symm) argsN)) Try.func57 rfl rfl) same_ok)) ?_
  intro w3 hx3
  have hE := hE.trans hx3
  have hq_pa := hq_pa.ext hx3
  have hf_pa := hf_pa.ext hx3
  have hp_v := hp_v.ext hx3
  have hB1 := hB1.ext hx3
  refine L.val rfl (op_and rfl rfl rfl rfl) ?_
  refine L.val rfl (op_assign rfl rfl) ?_
  refine L.nil ?_
  refine thenF_nor ?_
  refine W.ret ?_
  exact end_ret1 (v := (.bool ((pa x) && (same_f v x)))) rfl rfl ⟨by simp only [precommit2_f], hE⟩

def supported1_f (x : Vt) (i : Int) (pa : Vt → Bool) : Bool := (decide (x.signer = i)) && (pa x)
set_option maxRecDepth 100000 in
theorem supported1_ok {x : Vt} {p_i : Addr} {i : Int} {q_pa : Addr} {fv_pa : Value} {pa : Vt → Bool}  {w : World} (hp_i : Cells w p_i (Enc.cells i)) (hq_pa : Cells w q_pa [fv_pa]) (hf_pa : Fits Try.prog w fv_pa pa) : Gives Try.prog 102 #[(Enc.val (x : Vt)), (.pointer (some p_i)), (.pointer (some q_pa))] w fun u w' => u = (.bool (supported1_f x i pa)) ∧ Ext w w' := by
  have hE : Ext w w := Ext.refl w
  refine gives_of_W Try.func102 rfl Try.ntmps102 rfl ?_
  refine W.seq ?_
  refine W.region (by rfl) ?_
  refine L.step rfl (op_box (cs := (Enc.cells (x : Vt))) rfl rfl rfl) ?_
  rintro _ w1 ⟨b1, rfl, hb1, hB1, hx1⟩
  have hE := hE.trans hx1
  have hp_i := hp_i.ext hx1
  have hq_pa := hq_pa.ext hx1
  have hf_pa := hf_pa.ext hx1
  refine L.val (v := (.bool false)) rfl (op_assign rfl rfl) ?_
  refine L.nil ?_
  refine thenF_nor ?_
  refine W.seq ?_
  refine W.region (by rfl) ?_
  refine L.val rfl (op_field rfl rfl fo28_4 rfl) ?_
  refine L.val rfl (op_load1 rfl rfl one3 (hB1.cells.one (n := 4) rfl)) ?_
  refine L.val rfl (op_load1 rfl rfl one3 (hp_i.one (n := 0) rfl)) ?_
  refine L.val rfl (op_eql rfl rfl rfl) ?_
  refine L.val rfl (op_move rfl rfl) ?_
  refine L.guardv (v := fv_pa) (wanted_yes rfl rfl rfl) (fun hg => (op_load1 rfl rfl one65 (hq_pa.one (n := 0) rfl))) ?_
  refine L.guardv (v := (Enc.val (x : Vt))) (wanted_yes rfl rfl rfl) (fun hg => (op_load (v := (x : Vt)) rfl rfl ty28 hB1.cells)) ?_
  refine L.guardc (v := (.bool (pa x))) (wanted_yes rfl rfl rfl) (fun hg => (op_fits (a := (x : Vt)) hf_pa rfl ((show _ = vif _ fv_pa from rfl).trans (vif_t hg).symm) ((show _ = vif _ (Enc.val (x : Vt)) from rfl).trans (vif_t hg).symm))) ?_
  intro w2 hx2
  have hE := hE.trans hx2
  have hp_i := hp_i.ext hx2
  have hq_pa := hq_pa.ext hx2
  have hf_pa := hf_pa.ext hx2
  have hB1 := hB1.ext hx2
  refine L.val rfl (op_and rfl rfl rfl rfl) ?_
  refine L.val rfl (op_assign rfl rfl) ?_
  refine L.nil ?_
  refine thenF_nor ?_
  refine W.ret ?_
  exact end_ret1 (v := (.bool ((decide (x.signer = i)) && (pa x)))) rfl rfl ⟨by simp only [supported1_f], hE⟩

set_option maxRecDepth 100000 in
theorem has_ok {m_c q_c : Int} {A_c : Option Addr} {c_c lo_c hi_c : Nat} {c : List Vt} {fv_p : Value} {p : Vt → Bool}  {w : World} (hR_c : Rd w lo_c hi_c A_c c) (hf_p : Fits Try.prog w fv_p p) : Gives Try.prog 55 #[(.agg #[(.int .i64 m_c), (.int .i64 q_c), (.slice A_c c.length c_c)]), fv_p] w fun u w' => u = (.bool (c.any p)) ∧ Ext w w' := by
  have hE : Ext w w := Ext.refl w
  have hlen_c := hR_c.len
  refine gives_of_W Try.func55 rfl Try.ntmps55 rfl ?_
  refine W.seq ?_
  refine W.region (by rfl) ?_
  refine L.step rfl (op_box (cs := [(.int .i64 m_c), (.int .i64 q_c), (.slice A_c c.length c_c)]) rfl rfl rfl) ?_
  rintro _ w1 ⟨b1, rfl, hb1, hB1, hx1⟩
  have hE := hE.trans hx1
  have hR_c := hR_c.ext hx1
  have hf_p := hf_p.ext hx1
  refine L.val (v := (.bool false)) rfl (op_assign rfl rfl) ?_
  refine L.nil ?_
  refine thenF_nor ?_
  refine W.seq ?_
  refine W.seq ?_
  refine W.region (by rfl) ?_
  refine L.val rfl (op_field rfl rfl fo68_2 rfl) ?_
  refine L.val rfl (op_load1 rfl rfl one25 (hB1.cells.one (n := 2) rfl)) ?_
  refine L.val rfl (op_len rfl rfl ln25) ?_
  refine L.val rfl (op_move rfl rfl) ?_
  refine L.nil ?_
  refine thenF_nor ?_
  refine W.block ?_
  have S2_hR_c := hR_c
  have S2_hf_p := hf_p
  have S2_hB1 := hB1
  have S2_hE := hE
  have hS2 : Ext w1 w1 := Ext.refl _
  refine W.loopg (γ := Nat) (fun (k : Nat) (f : Fr) (ww : World) => k ≤ c.length ∧ (c.drop k).any p = c.any p ∧ f 1 = fv_p ∧ f 8 = (.slice A_c c.length c_c) ∧ f 9 = (.int .i64 (c.length : Int)) ∧ f 10 = (.int .i64 ((k : Nat) : Int)) ∧ Ext w1 ww) (fun (k : Nat) => c.length - k) 0 ⟨(by (try dsimp only); omega), rfl, rfl, rfl, rfl, rfl, hS2⟩ ?_
  rintro k f3 w3 ⟨hk, hany, s3_1, s3_8, s3_9, s3_10, hS2⟩
  have hR_c := S2_hR_c.ext hS2
  have hf_p := S2_hf_p.ext hS2
  have hB1 := S2_hB1.ext hS2
  have hE := S2_hE.trans hS2
  refine W.seq ?_
  refine W.region (by rfl) ?_
  refine L.val rfl (op_lss rfl s3_10 s3_9) ?_
  refine L.nil ?_
  refine thenF_nor ?_
  refine W.seq ?_
  refine W.cond (t := decide (((k : Nat) : Int) < (c.length : Int))) rfl (fun hc4 => ?_) (fun hc4 => ?_)
  · have hp4 := hc4
    simp only [Bool.and_eq_true, Bool.or_eq_true, Bool.and_eq_false_iff, Bool.or_eq_false_iff, Bool.not_eq_true', Bool.not_eq_false', decide_eq_true_eq, decide_eq_false_iff_not] at hp4
    refine W.skip ?_
    refine thenF_nor ?_
    refine W.seq ?_
    refine W.block ?_
    refine W.seq ?_
    refine W.region (by rfl) ?_
    refine L.val rfl (op_index (k := k) rfl s3_8 s3_10 sl25 (hR_c.getA (get_bang (l := c) (k := k) (by omega))).1 rfl (by omega) rfl) ?_
    refine L.val rfl (op_load (v := (c[k]! : Vt)) rfl rfl ty28 (hR_c.getA (get_bang (l := c) (k := k) (by omega))).2) ?_
    refine L.newvar (v := (Enc.val (c[k]! : Vt))) (cs := (Enc.cells (c[k]! : Vt))) rfl rfl rfl rfl rfl rfl (fun _ => rfl) rfl si28 zs28 (Enc.one _) ?_
    intro b5 w5 hb5 hB5 hx5
    have hbb5_hE := Nat.le_trans hE.size hb5
    have hbb5_hS2 := Nat.le_trans hS2.size hb5
    have hE := hE.trans hx5
    have hS2 := hS2.trans hx5
    have hR_c := hR_c.ext hx5
    have hf_p := hf_p.ext hx5
    have hB1 := hB1.ext hx5
    refine L.nil ?_
    refine thenF_nor ?_
    refine W.seq ?_
    refine W.region (by rfl) ?_
    refine L.val rfl (op_move rfl s3_1) ?_
    refine L.val rfl (op_load (v := (c[k]! : Vt)) rfl rfl ty28 hB5.cells) ?_
    refine L.call (v := (.bool (p (c[k]!)))) rfl (op_fits (a := (c[k]! : Vt)) hf_p rfl rfl rfl) ?_
    intro w6 hx6
    have hE := hE.trans hx6
    have hS2 := hS2.trans hx6
    have hR_c := hR_c.ext hx6
    have hf_p := hf_p.ext hx6
    have hB1 := hB1.ext hx6
    have hB5 := hB5.ext hx6
    refine L.nil ?_
    refine thenF_nor ?_
    refine W.cond (t := p (c[k]!)) rfl (fun hc7 => ?_) (fun hc7 => ?_)
    · have hp7 := hc7
      have hyes := hc7
      have hres := any_yes hany (by omega) hyes
      refine W.seq ?_
      refine W.region (by rfl) ?_
      refine L.val (v := (.bool true)) rfl (op_assign rfl rfl) ?_
      refine L.nil ?_
      refine thenF_nor ?_
      refine W.ret ?_
      refine blockF_ret ?_
      refine thenF_ret ?_
      refine thenF_ret ?_
      refine blockF_ret ?_
      refine thenF_ret ?_
      exact end_ret1 (v := (.bool true)) rfl rfl ⟨(by rw [← hres]), hE⟩
    · have hp7 := hc7
      have hno := hc7
      refine W.skip ?_
      refine blockF_nor ?_
      refine thenF_nor ?_
      refine W.region (by rfl) ?_
      refine L.val rfl (op_add (c := ((k + 1 : Nat) : Int)) rfl s3_10 rfl (by omega) (by omega)) ?_
      refine L.val rfl (op_move rfl rfl) ?_
      refine L.nil ?_
      refine thenF_nor ?_
      exact ⟨k + 1, ⟨(by (try dsimp only); omega), (any_go hany (by omega) hno), s3_1, s3_8, s3_9, rfl, hS2⟩, (by (try dsimp only); omega)⟩
  · have hp4 := hc4
    simp only [Bool.and_eq_true, Bool.or_eq_true, Bool.and_eq_false_iff, Bool.or_eq_false_iff, Bool.not_eq_true', Bool.not_eq_false', decide_eq_true_eq, decide_eq_false_iff_not] at hp4
    have hres := any_end hany (by omega)
    refine W.exit ?_
    refine thenF_exit ?_
    refine thenF_exit ?_
    refine blockF_hit ?_
    refine thenF_nor ?_
    refine W.seq ?_
    refine W.region (by rfl) ?_
    refine L.val (v := (.bool false)) rfl (op_assign rfl rfl) ?_
    refine L.nil ?_
    refine thenF_nor ?_
    refine W.ret ?_
    exact end_ret1 (v := (.bool false)) rfl rfl ⟨(by rw [← hres]), hE⟩

end Go.Proofs.Ytdknjfmjddlphaa
