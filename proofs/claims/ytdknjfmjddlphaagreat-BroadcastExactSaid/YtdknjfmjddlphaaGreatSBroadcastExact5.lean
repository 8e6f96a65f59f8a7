/-
  Texts that the proof rests on: ZR3, ZR4, ZR5, ZR6, ZR7, Defs5, Small, Alts, ZPure2, ZPure3, ZDefs2, Law15, ZPure4, ZPure5, RefOps2, DrawP, ZR8, ZSort.
-/
import Derived.Test.YtdknjfmjddlphaaGreatSBroadcastExact4
set_option linter.unusedSimpArgs false
set_option linter.unusedVariables false
namespace Go.Proofs.YtdknjfmjddlphaaGreat
open Go Go.Fk
set_option maxRecDepth 100000 in
theorem rExact_ok {m : Int} {s : Int}  {w : World}  : Gives Tryz.prog 151 #[(.int .i64 m), (.int .i64 s)] w fun u w' => u = (.bool (rExact_f m s)) ∧ Ext w w' := by
 have hE : Ext w w := Ext.refl w; refine gives_of_W Tryz.func151 rfl Tryz.ntmps151 rfl ?_; have hsz0 := size_nn m; have hsz1 := size_le m; refine W.seq ?_; refine W.region (by rfl) ?_; refine L.val (v := (.bool false)) rfl (op_assign rfl rfl) ?_; refine L.nil ?_; refine thenF_nor ?_; refine W.seq ?_; refine W.region (by rfl) ?_; refine L.val rfl (op_move rfl rfl) ?_; refine L.step rfl (OpS.call (op_call rfl (argsC rfl argsN) Tryz.func71 rfl rfl) rIDs_ok) ?_; rintro _ w1 ⟨⟨A1, c1, lo1, hi1, rfl, hcap1, hR1⟩, hx1⟩; have hE := hE.trans hx1; have hlen1 := hR1.len; refine L.val rfl (op_assign rfl rfl) ?_; refine L.nil ?_; refine thenF_nor ?_; refine W.seq ?_; refine W.seq ?_; refine W.region (by rfl) ?_; refine L.val rfl (op_assign rfl rfl) ?_; refine L.nil ?_; refine thenF_nor ?_; refine W.block ?_; have S2_hR1 := hR1; have S2_hE := hE; have hS2 : Ext w1 w1 := Ext.refl _; refine W.loopg (γ := Nat) (fun (k : Nat) (f : Fr) (ww : World) => k ≤ (ids_f s).length ∧ ((ids_f s).drop k).all (fun i => rHas_f m i) = (ids_f s).all (fun i => rHas_f m i) ∧ f 0 = (.int .i64 m) ∧ f 5 = (.slice A1 (ids_f s).length c1) ∧ f 6 = (.int .i64 ((k : Nat) : Int)) ∧ Ext w1 ww) (fun (k : Nat) => (ids_f s).length - k) 0 ⟨(by (try dsimp only); omega), rfl, rfl, rfl, rfl, hS2⟩ ?_; rintro k f3 w3 ⟨hk, hall, s3_0, s3_5, s3_6, hS2⟩; have hR1 := S2_hR1.ext hS2; have hE := S2_hE.trans hS2; refine W.seq ?_; refine W.seq ?_; refine W.region (by rfl) ?_; refine L.val rfl (op_move rfl s3_6) ?_; refine L.val rfl (op_move rfl s3_5) ?_; refine L.val rfl (op_len rfl rfl ln61) ?_; refine L.val rfl (op_lss rfl rfl rfl) ?_; refine L.nil ?_; refine thenF_nor ?_; refine W.cond (t := decide (((k : Nat) : Int) < ((ids_f s).length : Int))) rfl (fun hc4 => ?_) (fun hc4 => ?_)
 ·have hp4 := hc4; simp only [Bool.and_eq_true, Bool.or_eq_true, Bool.and_eq_false_iff, Bool.or_eq_false_iff, Bool.not_eq_true', Bool.not_eq_false', decide_eq_true_eq, decide_eq_false_iff_not] at hp4; refine W.skip ?_; refine thenF_nor ?_; refine W.seq ?_; refine W.block ?_; refine W.seq ?_; refine W.region (by rfl) ?_; refine L.val rfl (op_move rfl s3_0) ?_; refine L.val rfl (op_move rfl s3_5) ?_; refine L.val rfl (op_move rfl s3_6) ?_; refine L.val rfl (op_index (k := k) rfl rfl rfl sl61 (hR1.getA (get_bang (l := ids_f s) (k := k) (by omega))).1 rfl (by omega) rfl) ?_; refine L.val rfl (op_load1 rfl rfl one3 ((hR1.getA (get_bang (l := ids_f s) (k := k) (by omega))).2.one (n := 0) rfl)) ?_; refine L.call (v := (.bool (rHas_f m ((ids_f s)[k]!)))) rfl (OpS.call (op_call rfl (argsC rfl (argsC rfl argsN)) Tryz.func101 rfl rfl) rHas_ok) ?_; intro w5 hx5; have hE := hE.trans hx5; have hS2 := hS2.trans hx5; refine L.val rfl (op_not rfl rfl) ?_; refine L.nil ?_; refine thenF_nor ?_; refine W.cond (t := !(rHas_f m ((ids_f s)[k]!))) rfl (fun hc6 => ?_) (fun hc6 => ?_)
  ·have hp6 := hc6; simp only [Bool.and_eq_true, Bool.or_eq_true, Bool.and_eq_false_iff, Bool.or_eq_false_iff, Bool.not_eq_true', Bool.not_eq_false', decide_eq_true_eq, decide_eq_false_iff_not] at hp6; have hno := hc6; simp only [Bool.not_eq_true'] at hno; have hres : rExact_f m s = false := by unfold rExact_f; rw [← all_no (l := (ids_f s)) (k := k) (p := (fun i => rHas_f m i)) hall (by omega) hno]; rfl
   refine W.seq ?_; refine W.region (by rfl) ?_; refine L.val (v := (.bool false)) rfl (op_assign rfl rfl) ?_; refine L.nil ?_; refine thenF_nor ?_; refine W.ret ?_; refine blockF_ret ?_; refine thenF_ret ?_; refine thenF_ret ?_; refine blockF_ret ?_; refine thenF_ret ?_; exact end_ret1 (v := (.bool false)) rfl rfl ⟨(by rw [hres]), hE⟩
  ·have hp6 := hc6; simp only [Bool.and_eq_true, Bool.or_eq_true, Bool.and_eq_false_iff, Bool.or_eq_false_iff, Bool.not_eq_true', Bool.not_eq_false', decide_eq_true_eq, decide_eq_false_iff_not] at hp6; have hyes := hc6; simp only [Bool.not_eq_false'] at hyes; refine W.skip ?_; refine blockF_nor ?_; refine thenF_nor ?_; refine W.region (by rfl) ?_; refine L.val rfl (op_move rfl s3_6) ?_; refine L.val rfl (op_add (c := ((k + 1 : Nat) : Int)) rfl rfl rfl (by omega) (by omega)) ?_; refine L.val rfl (op_assign rfl rfl) ?_; refine L.nil ?_; refine thenF_nor ?_; exact ⟨k + 1, ⟨(by (try dsimp only); omega), (all_go hall (by omega) hyes), s3_0, s3_5, rfl, hS2⟩, (by (try dsimp only); omega)⟩
 ·have hp4 := hc4; simp only [Bool.and_eq_true, Bool.or_eq_true, Bool.and_eq_false_iff, Bool.or_eq_false_iff, Bool.not_eq_true', Bool.not_eq_false', decide_eq_true_eq, decide_eq_false_iff_not] at hp4; have hend := all_end (l := (ids_f s)) (k := k) (p := (fun i => rHas_f m i)) hall (by omega); refine W.exit ?_; refine thenF_exit ?_; refine thenF_exit ?_; refine blockF_hit ?_; refine thenF_nor ?_; refine W.seq ?_; refine W.region (by rfl) ?_; refine L.val rfl (op_move rfl s3_5) ?_; refine L.val rfl (op_len rfl rfl ln61) ?_; refine L.val rfl (op_move rfl s3_0) ?_; refine L.call (v := (.int .i64 (size_f m))) rfl (OpS.call (op_call rfl (argsC rfl argsN) Tryz.func74 rfl rfl) rSize_ok) ?_; intro w7 hx7; have hE := hE.trans hx7; refine L.call (v := (.int .i64 (rQuorum_f (size_f m)))) rfl (OpS.call (op_call rfl (argsC rfl argsN) Tryz.func73 rfl rfl) (rQuorum_ok (by first | omega | (simp only [List.length_drop, List.length_take, List.length_append, List.length_cons, List.length_nil] at *; omega)) (by first | omega | (simp only [List.length_drop, List.length_take, List.length_append, List.length_cons, List.length_nil] at *; omega)))) ?_; intro w8 hx8; have hE := hE.trans hx8; refine L.val rfl (op_eql rfl rfl rfl) ?_; refine L.val rfl (op_assign rfl rfl) ?_; refine L.nil ?_; refine thenF_nor ?_; refine W.ret ?_; exact end_ret1 (v := (.bool (decide (((ids_f s).length : Int) = (rQuorum_f (size_f m)))))) rfl rfl ⟨(by unfold rExact_f; rw [← hend]; rfl), hE⟩
set_option maxRecDepth 100000 in
theorem rAll_ok {m : Int} {v : Vt} {A_a : Option Addr} {c_a lo_a hi_a : Nat} {a : List Vt} {kind : Int} {round : Int}  {w : World} (hR_a : Rd w lo_a hi_a A_a a) : Gives Tryz.prog 103 #[(.int .i64 m), (Enc.val (v : Vt)), (.slice A_a a.length c_a), (.int .i64 kind), (.int .i64 round)] w fun u w' => u = (.bool (rAll_f m v a kind round)) ∧ Ext w w' := by
 have hE : Ext w w := Ext.refl w; have hlen_a := hR_a.len; refine gives_of_W Tryz.func103 rfl Tryz.ntmps103 rfl ?_; refine W.seq ?_; refine W.region (by rfl) ?_; refine L.step rfl (op_box (cs := (Enc.cells (v : Vt))) rfl rfl rfl) ?_; rintro _ w1 ⟨b1, rfl, hb1, hB1, hx1⟩; have hE := hE.trans hx1; have hR_a := hR_a.ext hx1; refine L.val (v := (.bool false)) rfl (op_assign rfl rfl) ?_; refine L.nil ?_; refine thenF_nor ?_; refine W.seq ?_; refine W.region (by rfl) ?_; refine L.val rfl (op_field rfl rfl fo47_5 rfl) ?_; refine L.val rfl (op_load1 rfl rfl one22 (hB1.cells.one (n := 5) rfl)) ?_; refine L.step rfl (OpS.call (op_call rfl (argsC rfl argsN) Tryz.func71 rfl rfl) rIDs_ok) ?_; rintro _ w2 ⟨⟨A2, c2, lo2, hi2, rfl, hcap2, hR2⟩, hx2⟩; have hE := hE.trans hx2; have hR_a := hR_a.ext hx2; have hB1 := hB1.ext hx2; have hlen2 := hR2.len; refine L.val rfl (op_assign rfl rfl) ?_; refine L.nil ?_; refine thenF_nor ?_; refine W.seq ?_; refine W.seq ?_; refine W.region (by rfl) ?_; refine L.val rfl (op_assign rfl rfl) ?_; refine L.nil ?_; refine thenF_nor ?_; refine W.block ?_; have S3_hR_a := hR_a; have S3_hB1 := hB1; have S3_hR2 := hR2; have S3_hE := hE; have hS3 : Ext w2 w2 := Ext.refl _; refine W.loopg (γ := Nat) (fun (k : Nat) (f : Fr) (ww : World) => k ≤ (ids_f v.support).length ∧ ((ids_f v.support).drop k).all (fun i => a.any fun x => sdF_f m v x i kind round) = (ids_f v.support).all (fun i => a.any fun x => sdF_f m v x i kind round) ∧ f 0 = (.int .i64 m) ∧ f 2 = (.slice A_a a.length c_a) ∧ f 3 = (.int .i64 kind) ∧ f 4 = (.int .i64 round) ∧ f 6 = (.pointer (some ⟨b1, 0, none⟩)) ∧ f 11 = (.slice A2 (ids_f v.support).length c2) ∧ f 12 = (.int .i64 ((k : Nat) : Int)) ∧ Ext w2 ww) (fun (k : Nat) => (ids_f v.support).length - k) 0 ⟨(by (try dsimp only); omega), rfl, rfl, rfl, rfl, rfl, rfl, rfl, rfl, hS3⟩ ?_; rintro k f4 w4 ⟨hk, hall, s4_0, s4_2, s4_3, s4_4, s4_6, s4_11, s4_12, hS3⟩; have hR_a := S3_hR_a.ext hS3; have hB1 := S3_hB1.ext hS3; have hR2 := S3_hR2.ext hS3; have hE := S3_hE.trans hS3; refine W.seq ?_; refine W.seq ?_; refine W.region (by rfl) ?_; refine L.val rfl (op_move rfl s4_12) ?_; refine L.val rfl (op_move rfl s4_11) ?_; refine L.val rfl (op_len rfl rfl ln61) ?_; refine L.val rfl (op_lss rfl rfl rfl) ?_; refine L.nil ?_; refine thenF_nor ?_; refine W.cond (t := decide (((k : Nat) : Int) < ((ids_f v.support).length : Int))) rfl (fun hc5 => ?_) (fun hc5 => ?_)
 ·have hp5 := hc5; simp only [Bool.and_eq_true, Bool.or_eq_true, Bool.and_eq_false_iff, Bool.or_eq_false_iff, Bool.not_eq_true', Bool.not_eq_false', decide_eq_true_eq, decide_eq_false_iff_not] at hp5; refine W.skip ?_; refine thenF_nor ?_; refine W.seq ?_; refine W.block ?_; refine W.seq ?_; refine W.drawS [Sp.eq (.int .i64 m), Sp.eq (Enc.val (v : Vt)), Sp.eq (.slice A_a a.length c_a), Sp.eq (.slice A2 (ids_f v.support).length c2), Sp.eq (.int .i64 ((k : Nat) : Int)), Sp.eq (.pointer (some ((adr A2).add (k * 1)))), Sp.eq (.int .i64 ((ids_f v.support)[k]!)), Sp.eq (.int .i64 kind), Sp.eq (.int .i64 round), Sp.eq (.bool (a.any (fun x => sdF_f m v x ((ids_f v.support)[k]!) kind round))), Sp.eq (.bool (!(a.any (fun x => sdF_f m v x ((ids_f v.support)[k]!) kind round))))] mixed (by rfl) (Obls.cons ?_ (Obls.cons ?_ (Obls.cons ?_ (Obls.cons ?_ (Obls.cons ?_ (Obls.cons ?_ (Obls.cons ?_ (Obls.cons ?_ (Obls.cons ?_ (Obls.cons ?_ (Obls.cons ?_ Obls.nil))))))))))) ?_
  ·intro f7 w7 hx7 ho7 hd7; have d7_s0 : f7 0 = (.int .i64 m) := (ho7 0 rfl).trans s4_0; exact D.val rfl (op_move rfl d7_s0)
  ·intro f8 w8 hx8 ho8 hd8; have d8_s6 : f8 6 = (.pointer (some ⟨b1, 0, none⟩)) := (ho8 6 rfl).trans s4_6; have hB1 := hB1.ext hx8; exact D.val rfl (op_load (v := (v : Vt)) rfl d8_s6 ty47 hB1.cells)
  ·intro f9 w9 hx9 ho9 hd9; have d9_s2 : f9 2 = (.slice A_a a.length c_a) := (ho9 2 rfl).trans s4_2; exact D.val rfl (op_move rfl d9_s2)
  ·intro f10 w10 hx10 ho10 hd10; have d10_s11 : f10 11 = (.slice A2 (ids_f v.support).length c2) := (ho10 11 rfl).trans s4_11; exact D.val rfl (op_move rfl d10_s11)
  ·intro f11 w11 hx11 ho11 hd11; have d11_s12 : f11 12 = (.int .i64 ((k : Nat) : Int)) := (ho11 12 rfl).trans s4_12; exact D.val rfl (op_move rfl d11_s12)
  ·intro f12 w12 hx12 ho12 hd12; have d12_3 : f12 25 = (.slice A2 (ids_f v.support).length c2) := hd12 3 rfl; have d12_4 : f12 26 = (.int .i64 ((k : Nat) : Int)) := hd12 4 rfl; have hR2 := hR2.ext hx12; skip; exact D.val rfl (op_index (k := k) rfl d12_3 d12_4 sl61 (hR2.getA (get_bang (l := ids_f v.support) (k := k) (by omega))).1 rfl (by omega) rfl)
  ·intro f13 w13 hx13 ho13 hd13; have d13_5 : f13 27 = (.pointer (some ((adr A2).add (k * 1)))) := hd13 5 rfl; have hR2 := hR2.ext hx13; skip; exact D.val rfl (op_load1 rfl d13_5 one3 ((hR2.getA (get_bang (l := ids_f v.support) (k := k) (by omega))).2.one (n := 0) rfl))
  ·intro f14 w14 hx14 ho14 hd14; have d14_s3 : f14 3 = (.int .i64 kind) := (ho14 3 rfl).trans s4_3; exact D.val rfl (op_move rfl d14_s3)
  ·intro f15 w15 hx15 ho15 hd15; have d15_s4 : f15 4 = (.int .i64 round) := (ho15 4 rfl).trans s4_4; exact D.val rfl (op_move rfl d15_s4)
  ·intro f16 w16 hx16 ho16 hd16; have d16_0 : f16 22 = (.int .i64 m) := hd16 0 rfl; have d16_1 : f16 23 = (Enc.val (v : Vt)) := hd16 1 rfl; have d16_2 : f16 24 = (.slice A_a a.length c_a) := hd16 2 rfl; have d16_6 : f16 28 = (.int .i64 ((ids_f v.support)[k]!)) := hd16 6 rfl; have d16_7 : f16 29 = (.int .i64 kind) := hd16 7 rfl; have d16_8 : f16 30 = (.int .i64 round) := hd16 8 rfl; have hR_a := hR_a.ext hx16; exact D.call (R := (Sp.eq (.bool (a.any (fun x => sdF_f m v x ((ids_f v.support)[k]!) kind round)))).p) rfl (OpS.call (op_call rfl (argsC d16_0 (argsC d16_1 (argsC d16_2 (argsC d16_6 (argsC d16_7 (argsC d16_8 (argsC rfl argsN))))))) Tryz.func102 rfl rfl) (saidF_ok hR_a))
  ·intro f17 w17 hx17 ho17 hd17; have d17_9 : f17 31 = (.bool (a.any (fun x => sdF_f m v x ((ids_f v.support)[k]!) kind round))) := hd17 9 rfl; exact D.val rfl (op_not rfl d17_9)
  intro f18 w18 hx18 ho18 hr18; have s0 : f18 0 = (.int .i64 m) := (ho18 0 rfl).trans s4_0; have s2 : f18 2 = (.slice A_a a.length c_a) := (ho18 2 rfl).trans s4_2; have s3 : f18 3 = (.int .i64 kind) := (ho18 3 rfl).trans s4_3; have s4 : f18 4 = (.int .i64 round) := (ho18 4 rfl).trans s4_4; have s6 : f18 6 = (.pointer (some ⟨b1, 0, none⟩)) := (ho18 6 rfl).trans s4_6; have s11 : f18 11 = (.slice A2 (ids_f v.support).length c2) := (ho18 11 rfl).trans s4_11; have s12 : f18 12 = (.int .i64 ((k : Nat) : Int)) := (ho18 12 rfl).trans s4_12; have s32 : f18 32 = (.bool (!(a.any (fun x => sdF_f m v x ((ids_f v.support)[k]!) kind round)))) := hr18 10 (by decide); have hE := hE.trans hx18; have hS3 := hS3.trans hx18; refine thenF_nor ?_; refine W.cond (t := !(a.any (fun x => sdF_f m v x ((ids_f v.support)[k]!) kind round))) s32 (fun hc19 => ?_) (fun hc19 => ?_)
  ·have hp19 := hc19; simp only [Bool.and_eq_true, Bool.or_eq_true, Bool.and_eq_false_iff, Bool.or_eq_false_iff, Bool.not_eq_true', Bool.not_eq_false', decide_eq_true_eq, decide_eq_false_iff_not] at hp19; have hno := hc19; simp only [Bool.not_eq_true'] at hno; have hres : rAll_f m v a kind round = false := by unfold rAll_f; rw [← all_no (l := (ids_f v.support)) (k := k) (p := (fun i => a.any fun x => sdF_f m v x i kind round)) hall (by omega) hno]; rfl
   refine W.seq ?_; refine W.region (by rfl) ?_; refine L.val (v := (.bool false)) rfl (op_assign rfl rfl) ?_; refine L.nil ?_; refine thenF_nor ?_; refine W.ret ?_; refine blockF_ret ?_; refine thenF_ret ?_; refine thenF_ret ?_; refine blockF_ret ?_; refine thenF_ret ?_; exact end_ret1 (v := (.bool false)) rfl rfl ⟨(by rw [hres]), hE⟩
  ·have hp19 := hc19; simp only [Bool.and_eq_true, Bool.or_eq_true, Bool.and_eq_false_iff, Bool.or_eq_false_iff, Bool.not_eq_true', Bool.not_eq_false', decide_eq_true_eq, decide_eq_false_iff_not] at hp19; have hyes := hc19; simp only [Bool.not_eq_false'] at hyes; refine W.skip ?_; refine blockF_nor ?_; refine thenF_nor ?_; refine W.region (by rfl) ?_; refine L.val rfl (op_move rfl s12) ?_; refine L.val rfl (op_add (c := ((k + 1 : Nat) : Int)) rfl rfl rfl (by omega) (by omega)) ?_; refine L.val rfl (op_assign rfl rfl) ?_; refine L.nil ?_; refine thenF_nor ?_; exact ⟨k + 1, ⟨(by (try dsimp only); omega), (all_go hall (by omega) hyes), s0, s2, s3, s4, s6, s11, rfl, hS3⟩, (by (try dsimp only); omega)⟩
 ·have hp5 := hc5; simp only [Bool.and_eq_true, Bool.or_eq_true, Bool.and_eq_false_iff, Bool.or_eq_false_iff, Bool.not_eq_true', Bool.not_eq_false', decide_eq_true_eq, decide_eq_false_iff_not] at hp5; have hend := all_end (l := (ids_f v.support)) (k := k) (p := (fun i => a.any fun x => sdF_f m v x i kind round)) hall (by omega); refine W.exit ?_; refine thenF_exit ?_; refine thenF_exit ?_; refine blockF_hit ?_; refine thenF_nor ?_; refine W.seq ?_; refine W.region (by rfl) ?_; refine L.val rfl (op_move rfl s4_0) ?_; refine L.val rfl (op_field rfl s4_6 fo47_5 rfl) ?_; refine L.val rfl (op_load1 rfl rfl one22 (hB1.cells.one (n := 5) rfl)) ?_; refine L.call (v := (.bool (rExact_f m v.support))) rfl (OpS.call (op_call rfl (argsC rfl (argsC rfl argsN)) Tryz.func151 rfl rfl) rExact_ok) ?_; intro w20 hx20; have hE := hE.trans hx20; refine L.val rfl (op_assign rfl rfl) ?_; refine L.nil ?_; refine thenF_nor ?_; refine W.ret ?_; exact end_ret1 (v := (.bool (rExact_f m v.support))) rfl rfl ⟨(by unfold rAll_f; rw [← hend]; rfl), hE⟩
end Go.Proofs.YtdknjfmjddlphaaGreat
set_option linter.unusedSimpArgs false
set_option linter.unusedVariables false
namespace Go.Proofs.YtdknjfmjddlphaaGreat
open Go Go.Fk
set_option maxRecDepth 100000 in
set_option maxHeartbeats 4000000 in
theorem rAdopts_ok {m : Int} {v : Vt} {A_a : Option Addr} {c_a lo_a hi_a : Nat} {a : List Vt}  {w : World} (hR_a : Rd w lo_a hi_a A_a a) (h0 : 0 ≤ v.round) (h1 : v.round ≤ 100) : Gives Tryz.prog 104 #[(.int .i64 m), (Enc.val (v : Vt)), (.slice A_a a.length c_a)] w fun u w' => u = (.bool (rAdopts_f m v a)) ∧ Ext w w' := by
 have hE : Ext w w := Ext.refl w; have hlen_a := hR_a.len; refine gives_of_W Tryz.func104 rfl Tryz.ntmps104 rfl ?_; refine W.seq ?_; refine W.region (by rfl) ?_; refine L.step rfl (op_box (cs := (Enc.cells (v : Vt))) rfl rfl rfl) ?_; rintro _ w1 ⟨b1, rfl, hb1, hB1, hx1⟩; have hE := hE.trans hx1; have hR_a := hR_a.ext hx1; refine L.val (v := (.bool false)) rfl (op_assign rfl rfl) ?_; refine L.nil ?_; refine thenF_nor ?_; refine W.seq ?_; refine W.region (by rfl) ?_; refine L.val rfl (op_field rfl rfl fo47_5 rfl) ?_; refine L.val rfl (op_load1 rfl rfl one22 (hB1.cells.one (n := 5) rfl)) ?_; refine L.step rfl (OpS.call (op_call rfl (argsC rfl argsN) Tryz.func71 rfl rfl) rIDs_ok) ?_; rintro _ w2 ⟨⟨A2, c2, lo2, hi2, rfl, hcap2, hR2⟩, hx2⟩; have hE := hE.trans hx2; have hR_a := hR_a.ext hx2; have hB1 := hB1.ext hx2; have hlen2 := hR2.len; refine L.val rfl (op_assign rfl rfl) ?_; refine L.nil ?_; refine thenF_nor ?_; refine W.seq ?_; refine W.region (by rfl) ?_; refine L.val (v := (.bool false)) rfl (op_assign rfl rfl) ?_; refine L.nil ?_; refine thenF_nor ?_; refine W.seq ?_; refine W.seq ?_; refine W.region (by rfl) ?_; refine L.val rfl (op_assign rfl rfl) ?_; refine L.nil ?_; refine thenF_nor ?_; refine W.block ?_; have S3_hR_a := hR_a; have S3_hB1 := hB1; have S3_hR2 := hR2; have S3_hE := hE; have hS3 : Ext w2 w2 := Ext.refl _; refine W.loopg (γ := Nat) (fun (k : Nat) (f : Fr) (ww : World) => k ≤ (ids_f v.support).length ∧ ((ids_f v.support).drop k).all (fun i => !((!(adF m v a i)) && (!(adT m v a i)))) = (ids_f v.support).all (fun i => !((!(adF m v a i)) && (!(adT m v a i)))) ∧ f 0 = (.int .i64 m) ∧ f 2 = (.slice A_a a.length c_a) ∧ f 4 = (.pointer (some ⟨b1, 0, none⟩)) ∧ f 7 = (.slice A2 (ids_f v.support).length c2) ∧ f 9 = (.int .i64 ((k : Nat) : Int)) ∧ f 8 = (.bool (((ids_f v.support).take k).any (adF m v a))) ∧ Ext w2 ww) (fun (k : Nat) => (ids_f v.support).length - k) 0 ⟨(by (try dsimp only); omega), rfl, rfl, rfl, rfl, rfl, rfl, rfl, hS3⟩ ?_; rintro k f4 w4 ⟨hk, hall, s4_0, s4_2, s4_4, s4_7, s4_9, s4_8, hS3⟩; have hR_a := S3_hR_a.ext hS3; have hB1 := S3_hB1.ext hS3; have hR2 := S3_hR2.ext hS3; have hE := S3_hE.trans hS3; refine W.seq ?_; refine W.seq ?_; refine W.region (by rfl) ?_; refine L.val rfl (op_move rfl s4_9) ?_; refine L.val rfl (op_move rfl s4_7) ?_; refine L.val rfl (op_len rfl rfl ln61) ?_; refine L.val rfl (op_lss rfl rfl rfl) ?_; refine L.nil ?_; refine thenF_nor ?_; refine W.cond (t := decide (((k : Nat) : Int) < ((ids_f v.support).length : Int))) rfl (fun hc5 => ?_) (fun hc5 => ?_)
 ·have hp5 := hc5; simp only [Bool.and_eq_true, Bool.or_eq_true, Bool.and_eq_false_iff, Bool.or_eq_false_iff, Bool.not_eq_true', Bool.not_eq_false', decide_eq_true_eq, decide_eq_false_iff_not] at hp5; refine W.skip ?_; refine thenF_nor ?_; refine W.seq ?_; refine W.block ?_; refine W.seq ?_; refine W.drawS [Sp.eq (.int .i64 m), Sp.eq (Enc.val (v : Vt)), Sp.eq (.slice A_a a.length c_a), Sp.eq (.slice A2 (ids_f v.support).length c2), Sp.eq (.int .i64 ((k : Nat) : Int)), Sp.eq (.pointer (some ((adr A2).add (k * 1)))), Sp.eq (.int .i64 ((ids_f v.support)[k]!)), Sp.eq (.pointer (some ⟨b1, 2, none⟩)), Sp.eq (.int .i64 v.round), Sp.eq (.int .i64 (v.round - 1)), Sp.eq (.bool (a.any (fun x => sdF_f m v x ((ids_f v.support)[k]!) 4 (v.round - 1)))), Sp.eq (.bool (a.any (fun x => sdF_f m v x ((ids_f v.support)[k]!) 4 (v.round - 1))))] mixed (by rfl) (Obls.cons ?_ (Obls.cons ?_ (Obls.cons ?_ (Obls.cons ?_ (Obls.cons ?_ (Obls.cons ?_ (Obls.cons ?_ (Obls.cons ?_ (Obls.cons ?_ (Obls.cons ?_ (Obls.cons ?_ (Obls.cons ?_ Obls.nil)))))))))))) ?_
  ·intro f7 w7 hx7 ho7 hd7; have d7_s0 : f7 0 = (.int .i64 m) := (ho7 0 rfl).trans s4_0; exact D.val rfl (op_move rfl d7_s0)
  ·intro f8 w8 hx8 ho8 hd8; have d8_s4 : f8 4 = (.pointer (some ⟨b1, 0, none⟩)) := (ho8 4 rfl).trans s4_4; have hB1 := hB1.ext hx8; exact D.val rfl (op_load (v := (v : Vt)) rfl d8_s4 ty47 hB1.cells)
  ·intro f9 w9 hx9 ho9 hd9; have d9_s2 : f9 2 = (.slice A_a a.length c_a) := (ho9 2 rfl).trans s4_2; exact D.val rfl (op_move rfl d9_s2)
  ·intro f10 w10 hx10 ho10 hd10; have d10_s7 : f10 7 = (.slice A2 (ids_f v.support).length c2) := (ho10 7 rfl).trans s4_7; exact D.val rfl (op_move rfl d10_s7)
  ·intro f11 w11 hx11 ho11 hd11; have d11_s9 : f11 9 = (.int .i64 ((k : Nat) : Int)) := (ho11 9 rfl).trans s4_9; exact D.val rfl (op_move rfl d11_s9)
  ·intro f12 w12 hx12 ho12 hd12; have d12_3 : f12 23 = (.slice A2 (ids_f v.support).length c2) := hd12 3 rfl; have d12_4 : f12 24 = (.int .i64 ((k : Nat) : Int)) := hd12 4 rfl; have hR2 := hR2.ext hx12; skip; exact D.val rfl (op_index (k := k) rfl d12_3 d12_4 sl61 (hR2.getA (get_bang (l := ids_f v.support) (k := k) (by omega))).1 rfl (by omega) rfl)
  ·intro f13 w13 hx13 ho13 hd13; have d13_5 : f13 25 = (.pointer (some ((adr A2).add (k * 1)))) := hd13 5 rfl; have hR2 := hR2.ext hx13; skip; exact D.val rfl (op_load1 rfl d13_5 one3 ((hR2.getA (get_bang (l := ids_f v.support) (k := k) (by omega))).2.one (n := 0) rfl))
  ·intro f14 w14 hx14 ho14 hd14; have d14_s4 : f14 4 = (.pointer (some ⟨b1, 0, none⟩)) := (ho14 4 rfl).trans s4_4; exact D.val rfl (op_field rfl d14_s4 fo47_2 rfl)
  ·intro f15 w15 hx15 ho15 hd15; have d15_7 : f15 27 = (.pointer (some ⟨b1, 2, none⟩)) := hd15 7 rfl; have hB1 := hB1.ext hx15; exact D.val rfl (op_load1 rfl d15_7 one3 (hB1.cells.one (n := 2) rfl))
  ·intro f16 w16 hx16 ho16 hd16; have d16_8 : f16 28 = (.int .i64 v.round) := hd16 8 rfl; exact D.val rfl (op_sub rfl d16_8 rfl rfl (by omega))
  ·intro f17 w17 hx17 ho17 hd17; have d17_0 : f17 20 = (.int .i64 m) := hd17 0 rfl; have d17_1 : f17 21 = (Enc.val (v : Vt)) := hd17 1 rfl; have d17_2 : f17 22 = (.slice A_a a.length c_a) := hd17 2 rfl; have d17_6 : f17 26 = (.int .i64 ((ids_f v.support)[k]!)) := hd17 6 rfl; have d17_9 : f17 29 = (.int .i64 (v.round - 1)) := hd17 9 rfl; have hR_a := hR_a.ext hx17; exact D.call (R := (Sp.eq (.bool (a.any (fun x => sdF_f m v x ((ids_f v.support)[k]!) 4 (v.round - 1))))).p) rfl (OpS.call (op_call rfl (argsC d17_0 (argsC d17_1 (argsC d17_2 (argsC d17_6 (argsC rfl (argsC d17_9 (argsC rfl argsN))))))) Tryz.func102 rfl rfl) (saidF_ok hR_a))
  ·intro f18 w18 hx18 ho18 hd18; have d18_10 : f18 30 = (.bool (a.any (fun x => sdF_f m v x ((ids_f v.support)[k]!) 4 (v.round - 1)))) := hd18 10 rfl; exact D.val rfl (op_assign rfl d18_10)
  intro f19 w19 hx19 ho19 hr19; have s0 : f19 0 = (.int .i64 m) := (ho19 0 rfl).trans s4_0; have s2 : f19 2 = (.slice A_a a.length c_a) := (ho19 2 rfl).trans s4_2; have s4 : f19 4 = (.pointer (some ⟨b1, 0, none⟩)) := (ho19 4 rfl).trans s4_4; have s7 : f19 7 = (.slice A2 (ids_f v.support).length c2) := (ho19 7 rfl).trans s4_7; have s8 : f19 8 = (.bool (((ids_f v.support).take k).any (adF m v a))) := (ho19 8 rfl).trans s4_8; have s9 : f19 9 = (.int .i64 ((k : Nat) : Int)) := (ho19 9 rfl).trans s4_9; have s10 : f19 10 = (.bool (a.any (fun x => sdF_f m v x ((ids_f v.support)[k]!) 4 (v.round - 1)))) := hr19 11 (by decide); have hE := hE.trans hx19; have hS3 := hS3.trans hx19; have hR_a := hR_a.ext hx19; have hB1 := hB1.ext hx19; have hR2 := hR2.ext hx19; refine thenF_nor ?_; refine W.seq ?_; refine W.region (by rfl) ?_; refine L.val rfl (op_move rfl s8) ?_; refine L.val rfl (op_move rfl rfl) ?_; refine L.guardv (v := (.bool (a.any (fun x => sdF_f m v x ((ids_f v.support)[k]!) 4 (v.round - 1))))) (wanted_no rfl rfl rfl) (fun hg => (op_move rfl s10)) ?_; refine L.val rfl (op_or rfl rfl rfl rfl) ?_; refine L.val rfl (op_assign rfl rfl) ?_; refine L.nil ?_; refine thenF_nor ?_; refine W.seq ?_; refine W.drawS [Sp.eq (.bool (a.any (fun x => sdF_f m v x ((ids_f v.support)[k]!) 4 (v.round - 1)))), Sp.eq (.bool (!(a.any (fun x => sdF_f m v x ((ids_f v.support)[k]!) 4 (v.round - 1))))), Sp.eq (.bool (!(a.any (fun x => sdF_f m v x ((ids_f v.support)[k]!) 4 (v.round - 1))))), Sp.eq (vif (!(a.any (fun x => sdF_f m v x ((ids_f v.support)[k]!) 4 (v.round - 1)))) (.int .i64 m)), Sp.eq (vif (!(a.any (fun x => sdF_f m v x ((ids_f v.support)[k]!) 4 (v.round - 1)))) (Enc.val (v : Vt))), Sp.eq (vif (!(a.any (fun x => sdF_f m v x ((ids_f v.support)[k]!) 4 (v.round - 1)))) (.slice A_a a.length c_a)), Sp.eq (vif (!(a.any (fun x => sdF_f m v x ((ids_f v.support)[k]!) 4 (v.round - 1)))) (.slice A2 (ids_f v.support).length c2)), Sp.eq (vif (!(a.any (fun x => sdF_f m v x ((ids_f v.support)[k]!) 4 (v.round - 1)))) (.int .i64 ((k : Nat) : Int))), Sp.eq (vif (!(a.any (fun x => sdF_f m v x ((ids_f v.support)[k]!) 4 (v.round - 1)))) (.pointer (some ((adr A2).add (k * 1))))), Sp.eq (vif (!(a.any (fun x => sdF_f m v x ((ids_f v.support)[k]!) 4 (v.round - 1)))) (.int .i64 ((ids_f v.support)[k]!))), Sp.eq (vif (!(a.any (fun x => sdF_f m v x ((ids_f v.support)[k]!) 4 (v.round - 1)))) (.pointer (some ⟨b1, 2, none⟩))), Sp.eq (vif (!(a.any (fun x => sdF_f m v x ((ids_f v.support)[k]!) 4 (v.round - 1)))) (.int .i64 v.round)), Sp.eq (vif (!(a.any (fun x => sdF_f m v x ((ids_f v.support)[k]!) 4 (v.round - 1)))) (.int .i64 (v.round - 1))), Sp.eq (vif (!(a.any (fun x => sdF_f m v x ((ids_f v.support)[k]!) 4 (v.round - 1)))) (.bool (a.any (fun x => sdT_f m v x ((ids_f v.support)[k]!) 4 (v.round - 1))))), Sp.eq (vif (!(a.any (fun x => sdF_f m v x ((ids_f v.support)[k]!) 4 (v.round - 1)))) (.bool (!(a.any (fun x => sdT_f m v x ((ids_f v.support)[k]!) 4 (v.round - 1)))))), Sp.eq (.bool ((!(a.any (fun x => sdF_f m v x ((ids_f v.support)[k]!) 4 (v.round - 1)))) && (!(a.any (fun x => sdT_f m v x ((ids_f v.support)[k]!) 4 (v.round - 1))))))] mixed (by rfl) (Obls.cons ?_ (Obls.cons ?_ (Obls.cons ?_ (Obls.cons ?_ (Obls.cons ?_ (Obls.cons ?_ (Obls.cons ?_ (Obls.cons ?_ (Obls.cons ?_ (Obls.cons ?_ (Obls.cons ?_ (Obls.cons ?_ (Obls.cons ?_ (Obls.cons ?_ (Obls.cons ?_ (Obls.cons ?_ Obls.nil)))))))))))))))) ?_
  ·intro f21 w21 hx21 ho21 hd21; have d21_s10 : f21 10 = (.bool (a.any (fun x => sdF_f m v x ((ids_f v.support)[k]!) 4 (v.round - 1)))) := (ho21 10 rfl).trans s10; exact D.val rfl (op_move rfl d21_s10)
  ·intro f22 w22 hx22 ho22 hd22; have d22_0 : f22 35 = (.bool (a.any (fun x => sdF_f m v x ((ids_f v.support)[k]!) 4 (v.round - 1)))) := hd22 0 rfl; exact D.val rfl (op_not rfl d22_0)
  ·intro f23 w23 hx23 ho23 hd23; have d23_1 : f23 36 = (.bool (!(a.any (fun x => sdF_f m v x ((ids_f v.support)[k]!) 4 (v.round - 1))))) := hd23 1 rfl; exact D.val rfl (op_move rfl d23_1)
  ·intro f24 w24 hx24 ho24 hd24; have d24_s0 : f24 0 = (.int .i64 m) := (ho24 0 rfl).trans s0; have d24_2 : f24 37 = (.bool (!(a.any (fun x => sdF_f m v x ((ids_f v.support)[k]!) 4 (v.round - 1))))) := hd24 2 rfl; exact D.guardv (wanted_yes rfl rfl d24_2) (fun hg => (op_move rfl d24_s0))
  ·intro f25 w25 hx25 ho25 hd25; have d25_s4 : f25 4 = (.pointer (some ⟨b1, 0, none⟩)) := (ho25 4 rfl).trans s4; have d25_2 : f25 37 = (.bool (!(a.any (fun x => sdF_f m v x ((ids_f v.support)[k]!) 4 (v.round - 1))))) := hd25 2 rfl; have hB1 := hB1.ext hx25; exact D.guardv (wanted_yes rfl rfl d25_2) (fun hg => (op_load (v := (v : Vt)) rfl d25_s4 ty47 hB1.cells))
  ·intro f26 w26 hx26 ho26 hd26; have d26_s2 : f26 2 = (.slice A_a a.length c_a) := (ho26 2 rfl).trans s2; have d26_2 : f26 37 = (.bool (!(a.any (fun x => sdF_f m v x ((ids_f v.support)[k]!) 4 (v.round - 1))))) := hd26 2 rfl; exact D.guardv (wanted_yes rfl rfl d26_2) (fun hg => (op_move rfl d26_s2))
  ·intro f27 w27 hx27 ho27 hd27; have d27_s7 : f27 7 = (.slice A2 (ids_f v.support).length c2) := (ho27 7 rfl).trans s7; have d27_2 : f27 37 = (.bool (!(a.any (fun x => sdF_f m v x ((ids_f v.support)[k]!) 4 (v.round - 1))))) := hd27 2 rfl; exact D.guardv (wanted_yes rfl rfl d27_2) (fun hg => (op_move rfl d27_s7))
  ·intro f28 w28 hx28 ho28 hd28; have d28_s9 : f28 9 = (.int .i64 ((k : Nat) : Int)) := (ho28 9 rfl).trans s9; have d28_2 : f28 37 = (.bool (!(a.any (fun x => sdF_f m v x ((ids_f v.support)[k]!) 4 (v.round - 1))))) := hd28 2 rfl; exact D.guardv (wanted_yes rfl rfl d28_2) (fun hg => (op_move rfl d28_s9))
  ·intro f29 w29 hx29 ho29 hd29; have d29_2 : f29 37 = (.bool (!(a.any (fun x => sdF_f m v x ((ids_f v.support)[k]!) 4 (v.round - 1))))) := hd29 2 rfl; have d29_6 : f29 41 = (vif (!(a.any (fun x => sdF_f m v x ((ids_f v.support)[k]!) 4 (v.round - 1)))) (.slice A2 (ids_f v.support).length c2)) := hd29 6 rfl; have d29_7 : f29 42 = (vif (!(a.any (fun x => sdF_f m v x ((ids_f v.support)[k]!) 4 (v.round - 1)))) (.int .i64 ((k : Nat) : Int))) := hd29 7 rfl; have hR2 := hR2.ext hx29; exact D.guardv (wanted_yes rfl rfl d29_2) (fun hg => by have hp := hg; (try simp only [Bool.and_eq_true, Bool.or_eq_true, Bool.not_eq_true', decide_eq_true_eq, decide_eq_false_iff_not, bne_iff_ne, beq_iff_eq] at hp); skip; exact (op_index (k := k) rfl ((show _ = vif _ (.slice A2 (ids_f v.support).length c2) from d29_6).trans (vif_t hg).symm) ((show _ = vif _ (.int .i64 ((k : Nat) : Int)) from d29_7).trans (vif_t hg).symm) sl61 (hR2.getA (get_bang (l := ids_f v.support) (k := k) (by omega))).1 rfl (by omega) rfl))
  ·intro f30 w30 hx30 ho30 hd30; have d30_2 : f30 37 = (.bool (!(a.any (fun x => sdF_f m v x ((ids_f v.support)[k]!) 4 (v.round - 1))))) := hd30 2 rfl; have d30_8 : f30 43 = (vif (!(a.any (fun x => sdF_f m v x ((ids_f v.support)[k]!) 4 (v.round - 1)))) (.pointer (some ((adr A2).add (k * 1))))) := hd30 8 rfl; have hR2 := hR2.ext hx30; exact D.guardv (wanted_yes rfl rfl d30_2) (fun hg => by have hp := hg; (try simp only [Bool.and_eq_true, Bool.or_eq_true, Bool.not_eq_true', decide_eq_true_eq, decide_eq_false_iff_not, bne_iff_ne, beq_iff_eq] at hp); skip; exact (op_load1 rfl ((show _ = vif _ (.pointer (some ((adr A2).add (k * 1)))) from d30_8).trans (vif_t hg).symm) one3 ((hR2.getA (get_bang (l := ids_f v.support) (k := k) (by omega))).2.one (n := 0) rfl)))
  ·intro f31 w31 hx31 ho31 hd31; have d31_s4 : f31 4 = (.pointer (some ⟨b1, 0, none⟩)) := (ho31 4 rfl).trans s4; have d31_2 : f31 37 = (.bool (!(a.any (fun x => sdF_f m v x ((ids_f v.support)[k]!) 4 (v.round - 1))))) := hd31 2 rfl; exact D.guardv (wanted_yes rfl rfl d31_2) (fun hg => (op_field rfl d31_s4 fo47_2 rfl))
  ·intro f32 w32 hx32 ho32 hd32; have d32_2 : f32 37 = (.bool (!(a.any (fun x => sdF_f m v x ((ids_f v.support)[k]!) 4 (v.round - 1))))) := hd32 2 rfl; have d32_10 : f32 45 = (vif (!(a.any (fun x => sdF_f m v x ((ids_f v.support)[k]!) 4 (v.round - 1)))) (.pointer (some ⟨b1, 2, none⟩))) := hd32 10 rfl; have hB1 := hB1.ext hx32; exact D.guardv (wanted_yes rfl rfl d32_2) (fun hg => (op_load1 rfl ((show _ = vif _ (.pointer (some ⟨b1, 2, none⟩)) from d32_10).trans (vif_t hg).symm) one3 (hB1.cells.one (n := 2) rfl)))
  ·intro f33 w33 hx33 ho33 hd33; have d33_2 : f33 37 = (.bool (!(a.any (fun x => sdF_f m v x ((ids_f v.support)[k]!) 4 (v.round - 1))))) := hd33 2 rfl; have d33_11 : f33 46 = (vif (!(a.any (fun x => sdF_f m v x ((ids_f v.support)[k]!) 4 (v.round - 1)))) (.int .i64 v.round)) := hd33 11 rfl; exact D.guardv (wanted_yes rfl rfl d33_2) (fun hg => (op_sub rfl ((show _ = vif _ (.int .i64 v.round) from d33_11).trans (vif_t hg).symm) rfl rfl (by omega)))
  ·intro f34 w34 hx34 ho34 hd34; have d34_2 : f34 37 = (.bool (!(a.any (fun x => sdF_f m v x ((ids_f v.support)[k]!) 4 (v.round - 1))))) := hd34 2 rfl; have d34_3 : f34 38 = (vif (!(a.any (fun x => sdF_f m v x ((ids_f v.support)[k]!) 4 (v.round - 1)))) (.int .i64 m)) := hd34 3 rfl; have d34_4 : f34 39 = (vif (!(a.any (fun x => sdF_f m v x ((ids_f v.support)[k]!) 4 (v.round - 1)))) (Enc.val (v : Vt))) := hd34 4 rfl; have d34_5 : f34 40 = (vif (!(a.any (fun x => sdF_f m v x ((ids_f v.support)[k]!) 4 (v.round - 1)))) (.slice A_a a.length c_a)) := hd34 5 rfl; have d34_9 : f34 44 = (vif (!(a.any (fun x => sdF_f m v x ((ids_f v.support)[k]!) 4 (v.round - 1)))) (.int .i64 ((ids_f v.support)[k]!))) := hd34 9 rfl; have d34_12 : f34 47 = (vif (!(a.any (fun x => sdF_f m v x ((ids_f v.support)[k]!) 4 (v.round - 1)))) (.int .i64 (v.round - 1))) := hd34 12 rfl; have hR_a := hR_a.ext hx34; exact D.guardc (wanted_yes rfl rfl d34_2) (fun hg => (OpS.call (op_call rfl (argsC ((show _ = vif _ (.int .i64 m) from d34_3).trans (vif_t hg).symm) (argsC ((show _ = vif _ (Enc.val (v : Vt)) from d34_4).trans (vif_t hg).symm) (argsC ((show _ = vif _ (.slice A_a a.length c_a) from d34_5).trans (vif_t hg).symm) (argsC ((show _ = vif _ (.int .i64 ((ids_f v.support)[k]!)) from d34_9).trans (vif_t hg).symm) (argsC rfl (argsC ((show _ = vif _ (.int .i64 (v.round - 1)) from d34_12).trans (vif_t hg).symm) (argsC rfl argsN))))))) Tryz.func102 rfl rfl) (saidT_ok hR_a)))
  ·intro f35 w35 hx35 ho35 hd35; have d35_2 : f35 37 = (.bool (!(a.any (fun x => sdF_f m v x ((ids_f v.support)[k]!) 4 (v.round - 1))))) := hd35 2 rfl; have d35_13 : f35 48 = (vif (!(a.any (fun x => sdF_f m v x ((ids_f v.support)[k]!) 4 (v.round - 1)))) (.bool (a.any (fun x => sdT_f m v x ((ids_f v.support)[k]!) 4 (v.round - 1))))) := hd35 13 rfl; exact D.guardv (wanted_yes rfl rfl d35_2) (fun hg => (op_not rfl ((show _ = vif _ (.bool (a.any (fun x => sdT_f m v x ((ids_f v.support)[k]!) 4 (v.round - 1)))) from d35_13).trans (vif_t hg).symm)))
  ·intro f36 w36 hx36 ho36 hd36; have d36_2 : f36 37 = (.bool (!(a.any (fun x => sdF_f m v x ((ids_f v.support)[k]!) 4 (v.round - 1))))) := hd36 2 rfl; have d36_14 : f36 49 = (vif (!(a.any (fun x => sdF_f m v x ((ids_f v.support)[k]!) 4 (v.round - 1)))) (.bool (!(a.any (fun x => sdT_f m v x ((ids_f v.support)[k]!) 4 (v.round - 1)))))) := hd36 14 rfl; exact D.val rfl (op_and rfl d36_2 d36_14 rfl)
  intro f37 w37 hx37 ho37 hr37; have s0 : f37 0 = (.int .i64 m) := (ho37 0 rfl).trans s0; have s2 : f37 2 = (.slice A_a a.length c_a) := (ho37 2 rfl).trans s2; have s4 : f37 4 = (.pointer (some ⟨b1, 0, none⟩)) := (ho37 4 rfl).trans s4; have s7 : f37 7 = (.slice A2 (ids_f v.support).length c2) := (ho37 7 rfl).trans s7; have s8 : f37 8 = (.bool ((((ids_f v.support).take k).any (adF m v a)) || (a.any (fun x => sdF_f m v x ((ids_f v.support)[k]!) 4 (v.round - 1))))) := ho37 8 rfl; have s9 : f37 9 = (.int .i64 ((k : Nat) : Int)) := (ho37 9 rfl).trans s9; have s50 : f37 50 = (.bool ((!(a.any (fun x => sdF_f m v x ((ids_f v.support)[k]!) 4 (v.round - 1)))) && (!(a.any (fun x => sdT_f m v x ((ids_f v.support)[k]!) 4 (v.round - 1)))))) := hr37 15 (by decide); have hE := hE.trans hx37; have hS3 := hS3.trans hx37; refine thenF_nor ?_; refine W.cond (t := (!(a.any (fun x => sdF_f m v x ((ids_f v.support)[k]!) 4 (v.round - 1)))) && (!(a.any (fun x => sdT_f m v x ((ids_f v.support)[k]!) 4 (v.round - 1))))) s50 (fun hc38 => ?_) (fun hc38 => ?_)
  ·have hp38 := hc38; simp only [Bool.and_eq_true, Bool.or_eq_true, Bool.and_eq_false_iff, Bool.or_eq_false_iff, Bool.not_eq_true', Bool.not_eq_false', decide_eq_true_eq, decide_eq_false_iff_not] at hp38; have hno0 := hc38; have hno : (fun i => !((!(adF m v a i)) && (!(adT m v a i)))) (ids_f v.support)[k]! = false := (by show (!((!(adF m v a (ids_f v.support)[k]!)) && (!(adT m v a (ids_f v.support)[k]!)))) = false; rw [show ((!(adF m v a (ids_f v.support)[k]!)) && (!(adT m v a (ids_f v.support)[k]!))) = true from hno0]; rfl); have hres : rAdopts_f m v a = false := by unfold rAdopts_f; rw [← all_no (l := (ids_f v.support)) (k := k) (p := (fun i => !((!(adF m v a i)) && (!(adT m v a i))))) hall (by omega) hno]; rfl
   refine W.seq ?_; refine W.region (by rfl) ?_; refine L.val (v := (.bool false)) rfl (op_assign rfl rfl) ?_; refine L.nil ?_; refine thenF_nor ?_; refine W.ret ?_; refine blockF_ret ?_; refine thenF_ret ?_; refine thenF_ret ?_; refine blockF_ret ?_; refine thenF_ret ?_; exact end_ret1 (v := (.bool false)) rfl rfl ⟨(by rw [hres]), hE⟩
  ·have hp38 := hc38; simp only [Bool.and_eq_true, Bool.or_eq_true, Bool.and_eq_false_iff, Bool.or_eq_false_iff, Bool.not_eq_true', Bool.not_eq_false', decide_eq_true_eq, decide_eq_false_iff_not] at hp38; have hyes0 := hc38; have hyes : (fun i => !((!(adF m v a i)) && (!(adT m v a i)))) (ids_f v.support)[k]! = true := (by show (!((!(adF m v a (ids_f v.support)[k]!)) && (!(adT m v a (ids_f v.support)[k]!)))) = true; rw [show ((!(adF m v a (ids_f v.support)[k]!)) && (!(adT m v a (ids_f v.support)[k]!))) = false from hyes0]; rfl); refine W.skip ?_; refine blockF_nor ?_; refine thenF_nor ?_; refine W.region (by rfl) ?_; refine L.val rfl (op_move rfl s9) ?_; refine L.val rfl (op_add (c := ((k + 1 : Nat) : Int)) rfl rfl rfl (by omega) (by omega)) ?_; refine L.val rfl (op_assign rfl rfl) ?_; refine L.nil ?_; refine thenF_nor ?_; exact ⟨k + 1, ⟨(by (try dsimp only); omega), (all_go hall (by omega) hyes), s0, s2, s4, s7, rfl, (s8.trans (congrArg Value.bool (any_take_go (l := (ids_f v.support)) (p := (adF m v a)) (k := k) (by omega)).symm)), hS3⟩, (by (try dsimp only); omega)⟩
 ·have hp5 := hc5; simp only [Bool.and_eq_true, Bool.or_eq_true, Bool.and_eq_false_iff, Bool.or_eq_false_iff, Bool.not_eq_true', Bool.not_eq_false', decide_eq_true_eq, decide_eq_false_iff_not] at hp5; have hend := all_end (l := (ids_f v.support)) (k := k) (p := (fun i => !((!(adF m v a i)) && (!(adT m v a i))))) hall (by omega); have hkl : k = (ids_f v.support).length := by omega
  refine W.exit ?_; refine thenF_exit ?_; refine thenF_exit ?_; refine blockF_hit ?_; refine thenF_nor ?_; refine W.seq ?_; refine W.region (by rfl) ?_; refine L.val rfl (op_move rfl s4_8) ?_; refine L.val rfl (op_move rfl rfl) ?_; refine L.guardv (v := (.int .i64 m)) (wanted_yes rfl rfl rfl) (fun hg => (op_move rfl s4_0)) ?_; refine L.guardv (v := (.pointer (some ⟨b1, 5, none⟩))) (wanted_yes rfl rfl rfl) (fun hg => (op_field rfl s4_4 fo47_5 rfl)) ?_; refine L.guardv (v := (.int .i64 v.support)) (wanted_yes rfl rfl rfl) (fun hg => (op_load1 rfl ((show _ = vif _ (.pointer (some ⟨b1, 5, none⟩)) from rfl).trans (vif_t hg).symm) one22 (hB1.cells.one (n := 5) rfl))) ?_; refine L.guardc (v := (.bool (rExact_f m v.support))) (wanted_yes rfl rfl rfl) (fun hg => (OpS.call (op_call rfl (argsC ((show _ = vif _ (.int .i64 m) from rfl).trans (vif_t hg).symm) (argsC ((show _ = vif _ (.int .i64 v.support) from rfl).trans (vif_t hg).symm) argsN)) Tryz.func151 rfl rfl) rExact_ok)) ?_; intro w39 hx39; have hE := hE.trans hx39; refine L.val rfl (op_and rfl rfl rfl rfl) ?_; refine L.val rfl (op_assign rfl rfl) ?_; refine L.nil ?_; refine thenF_nor ?_; refine W.ret ?_; exact end_ret1 (v := (.bool ((((ids_f v.support).take k).any (adF m v a)) && (rExact_f m v.support)))) rfl rfl ⟨(by unfold rAdopts_f; rw [← hend, hkl, List.take_length]; rfl), hE⟩
set_option maxRecDepth 100000 in
set_option maxHeartbeats 4000000 in
theorem rCarries_ok {m : Int} {v : Vt} {A_a : Option Addr} {c_a lo_a hi_a : Nat} {a : List Vt}  {w : World} (hR_a : Rd w lo_a hi_a A_a a) (h0 : 0 ≤ v.round) (h1 : v.round ≤ 100) : Gives Tryz.prog 105 #[(.int .i64 m), (Enc.val (v : Vt)), (.slice A_a a.length c_a)] w fun u w' => u = (.bool (rCarries_f m v a)) ∧ Ext w w' := by
 have hE : Ext w w := Ext.refl w; have hlen_a := hR_a.len; refine gives_of_W Tryz.func105 rfl Tryz.ntmps105 rfl ?_; refine W.seq ?_; refine W.region (by rfl) ?_; refine L.step rfl (op_box (cs := (Enc.cells (v : Vt))) rfl rfl rfl) ?_; rintro _ w1 ⟨b1, rfl, hb1, hB1, hx1⟩; have hE := hE.trans hx1; have hR_a := hR_a.ext hx1; refine L.val (v := (.bool false)) rfl (op_assign rfl rfl) ?_; refine L.nil ?_; refine thenF_nor ?_; refine W.seq ?_; refine W.region (by rfl) ?_; refine L.val rfl (op_field rfl rfl fo47_5 rfl) ?_; refine L.val rfl (op_load1 rfl rfl one22 (hB1.cells.one (n := 5) rfl)) ?_; refine L.step rfl (OpS.call (op_call rfl (argsC rfl argsN) Tryz.func71 rfl rfl) rIDs_ok) ?_; rintro _ w2 ⟨⟨A2, c2, lo2, hi2, rfl, hcap2, hR2⟩, hx2⟩; have hE := hE.trans hx2; have hR_a := hR_a.ext hx2; have hB1 := hB1.ext hx2; have hlen2 := hR2.len; refine L.val rfl (op_assign rfl rfl) ?_; refine L.nil ?_; refine thenF_nor ?_; refine W.seq ?_; refine W.seq ?_; refine W.region (by rfl) ?_; refine L.val rfl (op_assign rfl rfl) ?_; refine L.nil ?_; refine thenF_nor ?_; refine W.block ?_; have S3_hR_a := hR_a; have S3_hB1 := hB1; have S3_hR2 := hR2; have S3_hE := hE; have hS3 : Ext w2 w2 := Ext.refl _; refine W.loopg (γ := Nat) (fun (k : Nat) (f : Fr) (ww : World) => k ≤ (ids_f v.support).length ∧ ((ids_f v.support).drop k).all (adT m v a) = (ids_f v.support).all (adT m v a) ∧ f 0 = (.int .i64 m) ∧ f 2 = (.slice A_a a.length c_a) ∧ f 4 = (.pointer (some ⟨b1, 0, none⟩)) ∧ f 7 = (.slice A2 (ids_f v.support).length c2) ∧ f 8 = (.int .i64 ((k : Nat) : Int)) ∧ Ext w2 ww) (fun (k : Nat) => (ids_f v.support).length - k) 0 ⟨(by (try dsimp only); omega), rfl, rfl, rfl, rfl, rfl, rfl, hS3⟩ ?_; rintro k f4 w4 ⟨hk, hall, s4_0, s4_2, s4_4, s4_7, s4_8, hS3⟩; have hR_a := S3_hR_a.ext hS3; have hB1 := S3_hB1.ext hS3; have hR2 := S3_hR2.ext hS3; have hE := S3_hE.trans hS3; refine W.seq ?_; refine W.seq ?_; refine W.region (by rfl) ?_; refine L.val rfl (op_move rfl s4_8) ?_; refine L.val rfl (op_move rfl s4_7) ?_; refine L.val rfl (op_len rfl rfl ln61) ?_; refine L.val rfl (op_lss rfl rfl rfl) ?_; refine L.nil ?_; refine thenF_nor ?_; refine W.cond (t := decide (((k : Nat) : Int) < ((ids_f v.support).length : Int))) rfl (fun hc5 => ?_) (fun hc5 => ?_)
 ·have hp5 := hc5; simp only [Bool.and_eq_true, Bool.or_eq_true, Bool.and_eq_false_iff, Bool.or_eq_false_iff, Bool.not_eq_true', Bool.not_eq_false', decide_eq_true_eq, decide_eq_false_iff_not] at hp5; refine W.skip ?_; refine thenF_nor ?_; refine W.seq ?_; refine W.block ?_; refine W.seq ?_; refine W.drawS [Sp.eq (.int .i64 m), Sp.eq (Enc.val (v : Vt)), Sp.eq (.slice A_a a.length c_a), Sp.eq (.slice A2 (ids_f v.support).length c2), Sp.eq (.int .i64 ((k : Nat) : Int)), Sp.eq (.pointer (some ((adr A2).add (k * 1)))), Sp.eq (.int .i64 ((ids_f v.support)[k]!)), Sp.eq (.pointer (some ⟨b1, 2, none⟩)), Sp.eq (.int .i64 v.round), Sp.eq (.int .i64 (v.round - 1)), Sp.eq (.bool (a.any (fun x => sdT_f m v x ((ids_f v.support)[k]!) 4 (v.round - 1)))), Sp.eq (.bool (!(a.any (fun x => sdT_f m v x ((ids_f v.support)[k]!) 4 (v.round - 1)))))] mixed (by rfl) (Obls.cons ?_ (Obls.cons ?_ (Obls.cons ?_ (Obls.cons ?_ (Obls.cons ?_ (Obls.cons ?_ (Obls.cons ?_ (Obls.cons ?_ (Obls.cons ?_ (Obls.cons ?_ (Obls.cons ?_ (Obls.cons ?_ Obls.nil)))))))))))) ?_
  ·intro f7 w7 hx7 ho7 hd7; have d7_s0 : f7 0 = (.int .i64 m) := (ho7 0 rfl).trans s4_0; exact D.val rfl (op_move rfl d7_s0)
  ·intro f8 w8 hx8 ho8 hd8; have d8_s4 : f8 4 = (.pointer (some ⟨b1, 0, none⟩)) := (ho8 4 rfl).trans s4_4; have hB1 := hB1.ext hx8; exact D.val rfl (op_load (v := (v : Vt)) rfl d8_s4 ty47 hB1.cells)
  ·intro f9 w9 hx9 ho9 hd9; have d9_s2 : f9 2 = (.slice A_a a.length c_a) := (ho9 2 rfl).trans s4_2; exact D.val rfl (op_move rfl d9_s2)
  ·intro f10 w10 hx10 ho10 hd10; have d10_s7 : f10 7 = (.slice A2 (ids_f v.support).length c2) := (ho10 7 rfl).trans s4_7; exact D.val rfl (op_move rfl d10_s7)
  ·intro f11 w11 hx11 ho11 hd11; have d11_s8 : f11 8 = (.int .i64 ((k : Nat) : Int)) := (ho11 8 rfl).trans s4_8; exact D.val rfl (op_move rfl d11_s8)
  ·intro f12 w12 hx12 ho12 hd12; have d12_3 : f12 22 = (.slice A2 (ids_f v.support).length c2) := hd12 3 rfl; have d12_4 : f12 23 = (.int .i64 ((k : Nat) : Int)) := hd12 4 rfl; have hR2 := hR2.ext hx12; skip; exact D.val rfl (op_index (k := k) rfl d12_3 d12_4 sl61 (hR2.getA (get_bang (l := ids_f v.support) (k := k) (by omega))).1 rfl (by omega) rfl)
  ·intro f13 w13 hx13 ho13 hd13; have d13_5 : f13 24 = (.pointer (some ((adr A2).add (k * 1)))) := hd13 5 rfl; have hR2 := hR2.ext hx13; skip; exact D.val rfl (op_load1 rfl d13_5 one3 ((hR2.getA (get_bang (l := ids_f v.support) (k := k) (by omega))).2.one (n := 0) rfl))
  ·intro f14 w14 hx14 ho14 hd14; have d14_s4 : f14 4 = (.pointer (some ⟨b1, 0, none⟩)) := (ho14 4 rfl).trans s4_4; exact D.val rfl (op_field rfl d14_s4 fo47_2 rfl)
  ·intro f15 w15 hx15 ho15 hd15; have d15_7 : f15 26 = (.pointer (some ⟨b1, 2, none⟩)) := hd15 7 rfl; have hB1 := hB1.ext hx15; exact D.val rfl (op_load1 rfl d15_7 one3 (hB1.cells.one (n := 2) rfl))
  ·intro f16 w16 hx16 ho16 hd16; have d16_8 : f16 27 = (.int .i64 v.round) := hd16 8 rfl; exact D.val rfl (op_sub rfl d16_8 rfl rfl (by omega))
  ·intro f17 w17 hx17 ho17 hd17; have d17_0 : f17 19 = (.int .i64 m) := hd17 0 rfl; have d17_1 : f17 20 = (Enc.val (v : Vt)) := hd17 1 rfl; have d17_2 : f17 21 = (.slice A_a a.length c_a) := hd17 2 rfl; have d17_6 : f17 25 = (.int .i64 ((ids_f v.support)[k]!)) := hd17 6 rfl; have d17_9 : f17 28 = (.int .i64 (v.round - 1)) := hd17 9 rfl; have hR_a := hR_a.ext hx17; exact D.call (R := (Sp.eq (.bool (a.any (fun x => sdT_f m v x ((ids_f v.support)[k]!) 4 (v.round - 1))))).p) rfl (OpS.call (op_call rfl (argsC d17_0 (argsC d17_1 (argsC d17_2 (argsC d17_6 (argsC rfl (argsC d17_9 (argsC rfl argsN))))))) Tryz.func102 rfl rfl) (saidT_ok hR_a))
  ·intro f18 w18 hx18 ho18 hd18; have d18_10 : f18 29 = (.bool (a.any (fun x => sdT_f m v x ((ids_f v.support)[k]!) 4 (v.round - 1)))) := hd18 10 rfl; exact D.val rfl (op_not rfl d18_10)
  intro f19 w19 hx19 ho19 hr19; have s0 : f19 0 = (.int .i64 m) := (ho19 0 rfl).trans s4_0; have s2 : f19 2 = (.slice A_a a.length c_a) := (ho19 2 rfl).trans s4_2; have s4 : f19 4 = (.pointer (some ⟨b1, 0, none⟩)) := (ho19 4 rfl).trans s4_4; have s7 : f19 7 = (.slice A2 (ids_f v.support).length c2) := (ho19 7 rfl).trans s4_7; have s8 : f19 8 = (.int .i64 ((k : Nat) : Int)) := (ho19 8 rfl).trans s4_8; have s30 : f19 30 = (.bool (!(a.any (fun x => sdT_f m v x ((ids_f v.support)[k]!) 4 (v.round - 1))))) := hr19 11 (by decide); have hE := hE.trans hx19; have hS3 := hS3.trans hx19; refine thenF_nor ?_; refine W.cond (t := !(a.any (fun x => sdT_f m v x ((ids_f v.support)[k]!) 4 (v.round - 1)))) s30 (fun hc20 => ?_) (fun hc20 => ?_)
  ·have hp20 := hc20; simp only [Bool.and_eq_true, Bool.or_eq_true, Bool.and_eq_false_iff, Bool.or_eq_false_iff, Bool.not_eq_true', Bool.not_eq_false', decide_eq_true_eq, decide_eq_false_iff_not] at hp20; have hno := hc20; simp only [Bool.not_eq_true'] at hno; have hres : rCarries_f m v a = false := by unfold rCarries_f; rw [← all_no (l := (ids_f v.support)) (k := k) (p := (adT m v a)) hall (by omega) hno]; rfl
   refine W.seq ?_; refine W.region (by rfl) ?_; refine L.val (v := (.bool false)) rfl (op_assign rfl rfl) ?_; refine L.nil ?_; refine thenF_nor ?_; refine W.ret ?_; refine blockF_ret ?_; refine thenF_ret ?_; refine thenF_ret ?_; refine blockF_ret ?_; refine thenF_ret ?_; exact end_ret1 (v := (.bool false)) rfl rfl ⟨(by rw [hres]), hE⟩
  ·have hp20 := hc20; simp only [Bool.and_eq_true, Bool.or_eq_true, Bool.and_eq_false_iff, Bool.or_eq_false_iff, Bool.not_eq_true', Bool.not_eq_false', decide_eq_true_eq, decide_eq_false_iff_not] at hp20; have hyes := hc20; simp only [Bool.not_eq_false'] at hyes; refine W.skip ?_; refine blockF_nor ?_; refine thenF_nor ?_; refine W.region (by rfl) ?_; refine L.val rfl (op_move rfl s8) ?_; refine L.val rfl (op_add (c := ((k + 1 : Nat) : Int)) rfl rfl rfl (by omega) (by omega)) ?_; refine L.val rfl (op_assign rfl rfl) ?_; refine L.nil ?_; refine thenF_nor ?_; exact ⟨k + 1, ⟨(by (try dsimp only); omega), (all_go hall (by omega) hyes), s0, s2, s4, s7, rfl, hS3⟩, (by (try dsimp only); omega)⟩
 ·have hp5 := hc5; simp only [Bool.and_eq_true, Bool.or_eq_true, Bool.and_eq_false_iff, Bool.or_eq_false_iff, Bool.not_eq_true', Bool.not_eq_false', decide_eq_true_eq, decide_eq_false_iff_not] at hp5; have hend := all_end (l := (ids_f v.support)) (k := k) (p := (adT m v a)) hall (by omega); refine W.exit ?_; refine thenF_exit ?_; refine thenF_exit ?_; refine blockF_hit ?_; refine thenF_nor ?_; refine W.seq ?_; refine W.seq ?_; refine W.region (by rfl) ?_; refine L.val rfl (op_move rfl s4_0) ?_; refine L.val rfl (op_field rfl s4_4 fo47_5 rfl) ?_; refine L.val rfl (op_load1 rfl rfl one22 (hB1.cells.one (n := 5) rfl)) ?_; refine L.call (v := (.bool (rExact_f m v.support))) rfl (OpS.call (op_call rfl (argsC rfl (argsC rfl argsN)) Tryz.func151 rfl rfl) rExact_ok) ?_; intro w21 hx21; have hE := hE.trans hx21; have hR_a := hR_a.ext hx21; have hB1 := hB1.ext hx21; refine L.val rfl (op_not rfl rfl) ?_; refine L.nil ?_; refine thenF_nor ?_; refine W.cond (t := !(rExact_f m v.support)) rfl (fun hc22 => ?_) (fun hc22 => ?_)
  ·have hp22 := hc22; simp only [Bool.and_eq_true, Bool.or_eq_true, Bool.and_eq_false_iff, Bool.or_eq_false_iff, Bool.not_eq_true', Bool.not_eq_false', decide_eq_true_eq, decide_eq_false_iff_not] at hp22; have hex := hc22; have hres : rCarries_f m v a = false := by unfold rCarries_f; rw [← hend, cond_true, hex]; rfl
   refine W.seq ?_; refine W.region (by rfl) ?_; refine L.val (v := (.bool false)) rfl (op_assign rfl rfl) ?_; refine L.nil ?_; refine thenF_nor ?_; refine W.ret ?_; refine thenF_ret ?_; exact end_ret1 (v := (.bool false)) rfl rfl ⟨(by rw [hres]), hE⟩
  ·have hp22 := hc22; simp only [Bool.and_eq_true, Bool.or_eq_true, Bool.and_eq_false_iff, Bool.or_eq_false_iff, Bool.not_eq_true', Bool.not_eq_false', decide_eq_true_eq, decide_eq_false_iff_not] at hp22; have hex := hc22; refine W.skip ?_; refine thenF_nor ?_; refine W.seq ?_; refine W.seq ?_; refine W.region (by rfl) ?_; refine L.val rfl (op_assign rfl rfl) ?_; refine L.nil ?_; refine thenF_nor ?_; refine W.block ?_; have S23_hR_a := hR_a; have S23_hB1 := hB1; have S23_hE := hE; have hS23 : Ext w21 w21 := Ext.refl _; refine W.loopg (γ := Nat) (fun (j : Nat) (f : Fr) (ww : World) => j ≤ 10 ∧ ((List.range 10).drop j).any (fun k => (caF m v a) (k : Int)) = anyTen (caF m v a) ∧ f 0 = (.int .i64 m) ∧ f 2 = (.slice A_a a.length c_a) ∧ f 4 = (.pointer (some ⟨b1, 0, none⟩)) ∧ f 9 = (.int .i64 ((j : Nat) : Int)) ∧ Ext w21 ww) (fun (j : Nat) => 10 - j) 0 ⟨(by (try dsimp only); omega), rfl, s4_0, s4_2, s4_4, rfl, hS23⟩ ?_; rintro j f24 w24 ⟨hj, hten, s24_0, s24_2, s24_4, s24_9, hS23⟩; have hR_a := S23_hR_a.ext hS23; have hB1 := S23_hB1.ext hS23; have hE := S23_hE.trans hS23; refine W.seq ?_; refine W.seq ?_; refine W.region (by rfl) ?_; refine L.val rfl (op_move rfl s24_9) ?_; refine L.val rfl (op_lss rfl rfl rfl) ?_; refine L.nil ?_; refine thenF_nor ?_; refine W.cond (t := decide (((j : Nat) : Int) < 10)) rfl (fun hc25 => ?_) (fun hc25 => ?_)
   ·have hp25 := hc25; simp only [Bool.and_eq_true, Bool.or_eq_true, Bool.and_eq_false_iff, Bool.or_eq_false_iff, Bool.not_eq_true', Bool.not_eq_false', decide_eq_true_eq, decide_eq_false_iff_not] at hp25; refine W.skip ?_; refine thenF_nor ?_; refine W.seq ?_; refine W.block ?_; refine W.seq ?_; refine W.region (by rfl) ?_; refine L.val rfl (op_move rfl s24_0) ?_; refine L.val rfl (op_load (v := (v : Vt)) rfl s24_4 ty47 hB1.cells) ?_; refine L.val rfl (op_move rfl s24_2) ?_; refine L.val rfl (op_move rfl s24_9) ?_; refine L.val rfl (op_field rfl s24_4 fo47_2 rfl) ?_; refine L.val rfl (op_load1 rfl rfl one3 (hB1.cells.one (n := 2) rfl)) ?_; refine L.val rfl (op_sub rfl rfl rfl rfl (by omega)) ?_; refine L.call (v := (.bool (a.any (fun x => sdF_f m v x ((j : Nat) : Int) 3 (v.round - 1))))) rfl (OpS.call (op_call rfl (argsC rfl (argsC rfl (argsC rfl (argsC rfl (argsC rfl (argsC rfl (argsC rfl argsN))))))) Tryz.func102 rfl rfl) (saidF_ok hR_a)) ?_; intro w26 hx26; have hE := hE.trans hx26; have hS23 := hS23.trans hx26; refine L.nil ?_; refine thenF_nor ?_; refine W.cond (t := a.any (fun x => sdF_f m v x ((j : Nat) : Int) 3 (v.round - 1))) rfl (fun hc27 => ?_) (fun hc27 => ?_)
    ·have hp27 := hc27; have hten1 := ten_yes (p := (caF m v a)) hten (by omega) hc27; refine W.seq ?_; refine W.region (by rfl) ?_; refine L.val (v := (.bool true)) rfl (op_assign rfl rfl) ?_; refine L.nil ?_; refine thenF_nor ?_; refine W.ret ?_; refine blockF_ret ?_; refine thenF_ret ?_; refine thenF_ret ?_; refine blockF_ret ?_; refine thenF_ret ?_; exact end_ret1 (v := (.bool true)) rfl rfl ⟨(by unfold rCarries_f; rw [← hend, cond_true, hex, cond_false, ← hten1]), hE⟩
    ·have hp27 := hc27; have hnoT : (caF m v a) (j : Int) = false := hc27; refine W.skip ?_; refine blockF_nor ?_; refine thenF_nor ?_; refine W.region (by rfl) ?_; refine L.val rfl (op_move rfl s24_9) ?_; refine L.val rfl (op_add (c := ((j + 1 : Nat) : Int)) rfl rfl rfl (by omega) (by omega)) ?_; refine L.val rfl (op_assign rfl rfl) ?_; refine L.nil ?_; refine thenF_nor ?_; exact ⟨j + 1, ⟨(by (try dsimp only); omega), (ten_go (p := (caF m v a)) hten (by omega) hnoT), s24_0, s24_2, s24_4, rfl, hS23⟩, (by (try dsimp only); omega)⟩
   ·have hp25 := hc25; simp only [Bool.and_eq_true, Bool.or_eq_true, Bool.and_eq_false_iff, Bool.or_eq_false_iff, Bool.not_eq_true', Bool.not_eq_false', decide_eq_true_eq, decide_eq_false_iff_not] at hp25; have hten0 := ten_end (p := (caF m v a)) hten (by omega); have hres : rCarries_f m v a = false := by unfold rCarries_f; rw [← hend, cond_true, hex, cond_false, ← hten0]
    refine W.exit ?_; refine thenF_exit ?_; refine thenF_exit ?_; refine blockF_hit ?_; refine thenF_nor ?_; refine W.seq ?_; refine W.region (by rfl) ?_; refine L.val (v := (.bool false)) rfl (op_assign rfl rfl) ?_; refine L.nil ?_; refine thenF_nor ?_; refine W.ret ?_; exact end_ret1 (v := (.bool false)) rfl rfl ⟨(by rw [hres]), hE⟩
end Go.Proofs.YtdknjfmjddlphaaGreat
set_option linter.unusedSimpArgs false
set_option linter.unusedVariables false
namespace Go.Proofs.YtdknjfmjddlphaaGreat
open Go Go.Fk
set_option maxRecDepth 100000 in
set_option maxHeartbeats 4000000 in
theorem rTwo_ok {m : Int} {v : Vt} {A_a : Option Addr} {c_a lo_a hi_a : Nat} {a : List Vt}  {w : World} (hR_a : Rd w lo_a hi_a A_a a) : Gives Tryz.prog 106 #[(.int .i64 m), (Enc.val (v : Vt)), (.slice A_a a.length c_a)] w fun u w' => u = (.bool (rTwo_f m v a)) ∧ Ext w w' := by
 have hE : Ext w w := Ext.refl w; have hlen_a := hR_a.len; refine gives_of_W Tryz.func106 rfl Tryz.ntmps106 rfl ?_; have S0_hR_a := hR_a; refine W.seq ?_; refine W.region (by rfl) ?_; refine L.step rfl (op_box (cs := (Enc.cells (v : Vt))) rfl rfl rfl) ?_; rintro _ w1 ⟨b1, rfl, hb1, hB1, hx1⟩; have hE := hE.trans hx1; have hR_a := hR_a.ext hx1; refine L.val (v := (.bool false)) rfl (op_assign rfl rfl) ?_; refine L.nil ?_; refine thenF_nor ?_; refine W.seq ?_; refine W.region (by rfl) ?_; refine L.val rfl (op_assign rfl rfl) ?_; refine L.nil ?_; refine thenF_nor ?_; refine W.seq ?_; refine W.region (by rfl) ?_; have A2_hR_a := hR_a; have A2_hB1 := hB1; have A2_hE := hE; refine L.step rfl (op_alloc (z := Enc.val (default : Vt)) (cs := Enc.cells (default : Vt)) rfl (by kernel_rfl) rfl) ?_; rintro _ w2 ⟨b2, rfl, hb2, hB2, hx2⟩; have hbb2_hE := Nat.le_trans hE.size hb2; have hE := hE.trans hx2; have hR_a := hR_a.ext hx2; have hB1 := hB1.ext hx2; refine L.nil ?_; have hne12 : b1 ≠ b2 := by have := A2_hB1.lt; omega
 refine thenF_nor ?_; refine W.seq ?_; refine W.region (by rfl) ?_; refine L.val (v := (.bool false)) rfl (op_assign rfl rfl) ?_; refine L.val (v := (.bool false)) rfl (op_assign rfl rfl) ?_; refine L.nil ?_; refine thenF_nor ?_; refine W.seq ?_; refine W.seq ?_; refine W.region (by rfl) ?_; refine L.val rfl (op_assign rfl rfl) ?_; refine L.nil ?_; refine thenF_nor ?_; refine W.block ?_; refine W.loopg (γ := Nat × Int × Vt × Bool × Bool) (fun (g : Nat × Int × Vt × Bool × Bool) (f : Fr) (ww : World) => g.1 ≤ a.length ∧ (a.take g.1).foldl (twoStep m v) (0, default, false, false) = (g.2.1, g.2.2.1, g.2.2.2.1, g.2.2.2.2) ∧ f 0 = (.int .i64 m) ∧ f 2 = (.slice A_a a.length c_a) ∧ f 4 = (.pointer (some ⟨b1, 0, none⟩)) ∧ f 6 = (.bool false) ∧ f 8 = (.pointer (some ⟨b2, 0, none⟩)) ∧ f 11 = (.int .i64 ((g.1 : Nat) : Int)) ∧ f 7 = (.int .i64 g.2.1) ∧ f 9 = (.bool g.2.2.2.1) ∧ f 10 = (.bool g.2.2.2.2) ∧ Rd ww lo_a hi_a A_a a ∧ Box ww b1 47 (Enc.cells (v : Vt)) ∧ Box ww b2 47 (Enc.cells (g.2.2.1 : Vt)) ∧ Ext w ww) (fun (g : Nat × Int × Vt × Bool × Bool) => a.length - g.1) (0, 0, (default : Vt), false, false) ⟨(by (try dsimp only); omega), rfl, rfl, rfl, rfl, rfl, rfl, rfl, rfl, rfl, rfl, hR_a, hB1, hB2, hE⟩ ?_; rintro ⟨k, hv, y, fd, un⟩ f3 w3 ⟨hk, hst, s3_0, s3_2, s3_4, s3_6, s3_8, s3_11, s3_7, s3_9, s3_10, hR_a, hB1, hB2, hE⟩; dsimp only at hk hst s3_0 s3_2 s3_4 s3_6 s3_8 s3_11 s3_7 s3_9 s3_10 hR_a hB1 hB2 hE; refine W.seq ?_; refine W.seq ?_; refine W.region (by rfl) ?_; refine L.val rfl (op_move rfl s3_11) ?_; refine L.val rfl (op_move rfl s3_2) ?_; refine L.val rfl (op_len rfl rfl ln25) ?_; refine L.val rfl (op_lss rfl rfl rfl) ?_; refine L.nil ?_; refine thenF_nor ?_; refine W.cond (t := decide (((k : Nat) : Int) < (a.length : Int))) rfl (fun hc4 => ?_) (fun hc4 => ?_)
 ·have hp4 := hc4; simp only [Bool.and_eq_true, Bool.or_eq_true, Bool.and_eq_false_iff, Bool.or_eq_false_iff, Bool.not_eq_true', Bool.not_eq_false', decide_eq_true_eq, decide_eq_false_iff_not] at hp4; refine W.skip ?_; refine thenF_nor ?_; refine W.seq ?_; refine W.block ?_; refine W.seq ?_; refine W.region (by rfl) ?_; refine L.val rfl (op_move rfl s3_2) ?_; refine L.val rfl (op_move rfl s3_11) ?_; refine L.val rfl (op_index (k := k) rfl rfl rfl sl25 (hR_a.getA (get_bang (l := a) (k := k) (by omega))).1 rfl (by omega) rfl) ?_; refine L.val rfl (op_load (v := (a[k]! : Vt)) rfl rfl ty47 (hR_a.getA (get_bang (l := a) (k := k) (by omega))).2) ?_; have hlt5_2 := hB2.lt; refine L.newvar (v := (Enc.val (a[k]! : Vt))) (cs := (Enc.cells (a[k]! : Vt))) rfl rfl rfl rfl rfl rfl (fun _ => rfl) rfl si47 zs47 (Enc.one _) ?_; intro b5 w5 hb5 hB5 hx5; have hbb5_hE := Nat.le_trans hE.size hb5; have hE := hE.trans hx5; have hR_a := hR_a.ext hx5; have hB1 := hB1.ext hx5; have hB2 := hB2.ext hx5; refine L.nil ?_; refine thenF_nor ?_; refine W.seq ?_; refine W.seq ?_; refine W.region (by rfl) ?_; refine L.val rfl (op_field rfl rfl fo47_0 rfl) ?_; refine L.val rfl (op_load1 rfl rfl one3 (hB5.cells.one (n := 0) rfl)) ?_; refine L.val rfl (op_neq rfl rfl rfl) ?_; refine L.val rfl (op_move rfl rfl) ?_; refine L.guardv (v := (.pointer (some ⟨b5, 2, none⟩))) (wanted_no rfl rfl rfl) (fun hg => (op_field rfl rfl fo47_2 rfl)) ?_; refine L.guardv (v := (.int .i64 ((a[k]!).round))) (wanted_no rfl rfl rfl) (fun hg => (op_load1 rfl ((show _ = vif _ (.pointer (some ⟨b5, 2, none⟩)) from rfl).trans (vif_t hg).symm) one3 (hB5.cells.one (n := 2) rfl))) ?_; refine L.guardv (v := (.pointer (some ⟨b1, 2, none⟩))) (wanted_no rfl rfl rfl) (fun hg => (op_field rfl s3_4 fo47_2 rfl)) ?_; refine L.guardv (v := (.int .i64 v.round)) (wanted_no rfl rfl rfl) (fun hg => (op_load1 rfl ((show _ = vif _ (.pointer (some ⟨b1, 2, none⟩)) from rfl).trans (vif_t hg).symm) one3 (hB1.cells.one (n := 2) rfl))) ?_; refine L.guardv (v := (.bool (!decide (((a[k]!).round) = v.round)))) (wanted_no rfl rfl rfl) (fun hg => (op_neq rfl ((show _ = vif _ (.int .i64 ((a[k]!).round)) from rfl).trans (vif_t hg).symm) ((show _ = vif _ (.int .i64 v.round) from rfl).trans (vif_t hg).symm))) ?_; refine L.val rfl (op_or rfl rfl rfl rfl) ?_; refine L.val rfl (op_move rfl rfl) ?_; refine L.guardv (v := (.pointer (some ⟨b1, 5, none⟩))) (wanted_no rfl rfl rfl) (fun hg => (op_field rfl s3_4 fo47_5 rfl)) ?_; refine L.guardv (v := (.int .i64 v.support)) (wanted_no rfl rfl rfl) (fun hg => (op_load1 rfl ((show _ = vif _ (.pointer (some ⟨b1, 5, none⟩)) from rfl).trans (vif_t hg).symm) one22 (hB1.cells.one (n := 5) rfl))) ?_; refine L.guardv (v := (.pointer (some ⟨b5, 4, none⟩))) (wanted_no rfl rfl rfl) (fun hg => (op_field rfl rfl fo47_4 rfl)) ?_; refine L.guardv (v := (.int .i64 ((a[k]!).signer))) (wanted_no rfl rfl rfl) (fun hg => (op_load1 rfl ((show _ = vif _ (.pointer (some ⟨b5, 4, none⟩)) from rfl).trans (vif_t hg).symm) one3 (hB5.cells.one (n := 4) rfl))) ?_; refine L.guardc (v := (.bool (rHas_f v.support ((a[k]!).signer)))) (wanted_no rfl rfl rfl) (fun hg => (OpS.call (op_call rfl (argsC ((show _ = vif _ (.int .i64 v.support) from rfl).trans (vif_t hg).symm) (argsC ((show _ = vif _ (.int .i64 ((a[k]!).signer)) from rfl).trans (vif_t hg).symm) argsN)) Tryz.func101 rfl rfl) rHas_ok)) ?_; intro w6 hx6; have hE := hE.trans hx6; have hR_a := hR_a.ext hx6; have hB1 := hB1.ext hx6; have hB2 := hB2.ext hx6; have hB5 := hB5.ext hx6; refine L.guardv (v := (.bool (!(rHas_f v.support ((a[k]!).signer))))) (wanted_no rfl rfl rfl) (fun hg => (op_not rfl ((show _ = vif _ (.bool (rHas_f v.support ((a[k]!).signer))) from rfl).trans (vif_t hg).symm))) ?_; refine L.val rfl (op_or rfl rfl rfl rfl) ?_; refine L.val rfl (op_move rfl rfl) ?_; refine L.guardv (v := (.int .i64 m)) (wanted_no rfl rfl rfl) (fun hg => (op_move rfl s3_0)) ?_; refine L.guardv (v := (Enc.val (v : Vt))) (wanted_no rfl rfl rfl) (fun hg => (op_load (v := (v : Vt)) rfl s3_4 ty47 hB1.cells)) ?_; refine L.guardv (v := (Enc.val (a[k]! : Vt))) (wanted_no rfl rfl rfl) (fun hg => (op_load (v := (a[k]! : Vt)) rfl rfl ty47 hB5.cells)) ?_; refine L.guardc (v := (.bool (rCounts_f m v (a[k]!)))) (wanted_no rfl rfl rfl) (fun hg => (OpS.call (op_call rfl (argsC ((show _ = vif _ (.int .i64 m) from rfl).trans (vif_t hg).symm) (argsC ((show _ = vif _ (Enc.val (v : Vt)) from rfl).trans (vif_t hg).symm) (argsC ((show _ = vif _ (Enc.val (a[k]! : Vt)) from rfl).trans (vif_t hg).symm) argsN))) Tryz.func150 rfl rfl) rCounts_ok)) ?_; intro w7 hx7; have hE := hE.trans hx7; have hR_a := hR_a.ext hx7; have hB1 := hB1.ext hx7; have hB2 := hB2.ext hx7; have hB5 := hB5.ext hx7; refine L.guardv (v := (.bool (!(rCounts_f m v (a[k]!))))) (wanted_no rfl rfl rfl) (fun hg => (op_not rfl ((show _ = vif _ (.bool (rCounts_f m v (a[k]!))) from rfl).trans (vif_t hg).symm))) ?_; refine L.val rfl (op_or rfl rfl rfl rfl) ?_; refine L.nil ?_; refine thenF_nor ?_; refine W.cond (t := (((!decide (((a[k]!).kind) = 3)) || (!decide (((a[k]!).round) = v.round))) || (!(rHas_f v.support ((a[k]!).signer)))) || (!(rCounts_f m v (a[k]!)))) rfl (fun hc8 => ?_) (fun hc8 => ?_)
  ·have hp8 := hc8; simp only [Bool.and_eq_true, Bool.or_eq_true, Bool.and_eq_false_iff, Bool.or_eq_false_iff, Bool.not_eq_true', Bool.not_eq_false', decide_eq_true_eq, decide_eq_false_iff_not] at hp8; have hskip : twoSkip m v a[k]! = true := hc8; refine W.exit ?_; refine thenF_exit ?_; refine blockF_hit ?_; refine thenF_nor ?_; refine W.region (by rfl) ?_; refine L.val rfl (op_move rfl s3_11) ?_; refine L.val rfl (op_add (c := ((k + 1 : Nat) : Int)) rfl rfl rfl (by omega) (by omega)) ?_; refine L.val rfl (op_assign rfl rfl) ?_; refine L.nil ?_; refine thenF_nor ?_; exact ⟨(k + 1, hv, (y : Vt), fd, un), ⟨(by (try dsimp only); omega), (by dsimp only; rw [fold_go (by omega), hst]; exact two_skip hskip), s3_0, s3_2, s3_4, s3_6, s3_8, rfl, s3_7, s3_9, s3_10, hR_a, hB1, hB2, hE⟩, (by (try dsimp only); omega)⟩
  ·have hp8 := hc8; simp only [Bool.and_eq_true, Bool.or_eq_true, Bool.and_eq_false_iff, Bool.or_eq_false_iff, Bool.not_eq_true', Bool.not_eq_false', decide_eq_true_eq, decide_eq_false_iff_not] at hp8; have hskip : twoSkip m v a[k]! = false := hc8; refine W.skip ?_; refine thenF_nor ?_; refine W.seq ?_; refine W.region (by rfl) ?_; refine L.val rfl (op_move rfl s3_7) ?_; refine L.val rfl (op_field rfl rfl fo47_4 rfl) ?_; refine L.val rfl (op_load1 rfl rfl one3 (hB5.cells.one (n := 4) rfl)) ?_; refine L.call (v := (.int .i64 (rBit_f ((a[k]!).signer)))) rfl (OpS.call (op_call rfl (argsC rfl argsN) Tryz.func97 rfl rfl) rBit_ok) ?_; intro w9 hx9; have hE := hE.trans hx9; have hR_a := hR_a.ext hx9; have hB1 := hB1.ext hx9; have hB2 := hB2.ext hx9; have hB5 := hB5.ext hx9; refine L.val rfl (op_ior rfl rfl rfl) ?_; refine L.val rfl (op_assign rfl rfl) ?_; refine L.nil ?_; refine thenF_nor ?_; refine W.seq ?_; refine W.seq ?_; refine W.region (by rfl) ?_; refine L.val rfl (op_move rfl s3_9) ?_; refine L.val rfl (op_move rfl rfl) ?_; refine L.guardv (v := (Enc.val (y : Vt))) (wanted_yes rfl rfl rfl) (fun hg => (op_load (v := (y : Vt)) rfl s3_8 ty47 hB2.cells)) ?_; refine L.guardv (v := (Enc.val (a[k]! : Vt))) (wanted_yes rfl rfl rfl) (fun hg => (op_load (v := (a[k]! : Vt)) rfl rfl ty47 hB5.cells)) ?_; refine L.guardc (v := (.bool (rLike_f (y : Vt) (a[k]!)))) (wanted_yes rfl rfl rfl) (fun hg => (OpS.call (op_call rfl (argsC ((show _ = vif _ (Enc.val (y : Vt)) from rfl).trans (vif_t hg).symm) (argsC ((show _ = vif _ (Enc.val (a[k]! : Vt)) from rfl).trans (vif_t hg).symm) argsN)) Tryz.func149 rfl rfl) rLike_ok)) ?_; intro w10 hx10; have hE := hE.trans hx10; have hR_a := hR_a.ext hx10; have hB1 := hB1.ext hx10; have hB2 := hB2.ext hx10; have hB5 := hB5.ext hx10; refine L.guardv (v := (.bool (!(rLike_f (y : Vt) (a[k]!))))) (wanted_yes rfl rfl rfl) (fun hg => (op_not rfl ((show _ = vif _ (.bool (rLike_f (y : Vt) (a[k]!))) from rfl).trans (vif_t hg).symm))) ?_; refine L.val rfl (op_and rfl rfl rfl rfl) ?_; refine L.nil ?_; refine thenF_nor ?_; refine W.cond (t := fd && (!(rLike_f (y : Vt) (a[k]!)))) rfl (fun hc11 => ?_) (fun hc11 => ?_)
   ·have hp11 := hc11; simp only [Bool.and_eq_true, Bool.or_eq_true, Bool.and_eq_false_iff, Bool.or_eq_false_iff, Bool.not_eq_true', Bool.not_eq_false', decide_eq_true_eq, decide_eq_false_iff_not] at hp11; have hlk := hc11; refine W.region (by rfl) ?_; refine L.val (v := (.bool true)) rfl (op_assign rfl rfl) ?_; refine L.nil ?_; refine thenF_nor ?_; refine W.seq ?_; refine W.region (by rfl) ?_; refine L.val rfl (op_move rfl s3_9) ?_; refine L.val rfl (op_not rfl rfl) ?_; refine L.nil ?_; refine thenF_nor ?_; refine W.cond (t := !fd) rfl (fun hc12 => ?_) (fun hc12 => ?_)
    ·have hp12 := hc12; simp only [Bool.and_eq_true, Bool.or_eq_true, Bool.and_eq_false_iff, Bool.or_eq_false_iff, Bool.not_eq_true', Bool.not_eq_false', decide_eq_true_eq, decide_eq_false_iff_not] at hp12; have hfd := hc12; refine W.region (by rfl) ?_; refine L.val rfl (op_load (v := (a[k]! : Vt)) rfl rfl ty47 hB5.cells) ?_; refine L.step rfl (op_fillbox (v := (Enc.val (a[k]! : Vt))) (vs := Enc.cells (a[k]! : Vt)) rfl s3_8 rfl rfl si47 hB2 (by simp [Enc.len]) (Enc.one _)) ?_; rintro _ w13 ⟨hB13, hg13⟩; have hE := hE.grown hg13 (by intro k hk; cases hk; exact hbb2_hE); have hR_a := S0_hR_a.ext hE; have hB1 := hB1.far hg13 (by simpa using hne12); have hB2 := hB13; refine L.val (v := (.bool true)) rfl (op_assign rfl rfl) ?_; refine L.nil ?_; refine blockF_nor ?_; refine thenF_nor ?_; refine W.region (by rfl) ?_; refine L.val rfl (op_move rfl s3_11) ?_; refine L.val rfl (op_add (c := ((k + 1 : Nat) : Int)) rfl rfl rfl (by omega) (by omega)) ?_; refine L.val rfl (op_assign rfl rfl) ?_; refine L.nil ?_; refine thenF_nor ?_; exact ⟨(k + 1, ior hv (rBit_f ((a[k]!).signer)), (a[k]! : Vt), true, true), ⟨(by (try dsimp only); omega), (by dsimp only; rw [fold_go (by omega), hst]; exact two_take (m := m) (v := v) (x := a[k]!) (y := y) (hv := hv) (fd := fd) (un := un) hskip hlk hfd), s3_0, s3_2, s3_4, s3_6, s3_8, rfl, rfl, rfl, rfl, hR_a, hB1, hB2, hE⟩, (by (try dsimp only); omega)⟩
    ·have hp12 := hc12; simp only [Bool.and_eq_true, Bool.or_eq_true, Bool.and_eq_false_iff, Bool.or_eq_false_iff, Bool.not_eq_true', Bool.not_eq_false', decide_eq_true_eq, decide_eq_false_iff_not] at hp12; have hfd := hc12; refine W.skip ?_; refine blockF_nor ?_; refine thenF_nor ?_; refine W.region (by rfl) ?_; refine L.val rfl (op_move rfl s3_11) ?_; refine L.val rfl (op_add (c := ((k + 1 : Nat) : Int)) rfl rfl rfl (by omega) (by omega)) ?_; refine L.val rfl (op_assign rfl rfl) ?_; refine L.nil ?_; refine thenF_nor ?_; exact ⟨(k + 1, ior hv (rBit_f ((a[k]!).signer)), (y : Vt), fd, true), ⟨(by (try dsimp only); omega), (by dsimp only; rw [fold_go (by omega), hst]; exact two_take (m := m) (v := v) (x := a[k]!) (y := y) (hv := hv) (fd := fd) (un := un) hskip hlk hfd), s3_0, s3_2, s3_4, s3_6, s3_8, rfl, rfl, s3_9, rfl, hR_a, hB1, hB2, hE⟩, (by (try dsimp only); omega)⟩
   ·have hp11 := hc11; simp only [Bool.and_eq_true, Bool.or_eq_true, Bool.and_eq_false_iff, Bool.or_eq_false_iff, Bool.not_eq_true', Bool.not_eq_false', decide_eq_true_eq, decide_eq_false_iff_not] at hp11; have hlk := hc11; refine W.skip ?_; refine thenF_nor ?_; refine W.seq ?_; refine W.region (by rfl) ?_; refine L.val rfl (op_move rfl s3_9) ?_; refine L.val rfl (op_not rfl rfl) ?_; refine L.nil ?_; refine thenF_nor ?_; refine W.cond (t := !fd) rfl (fun hc14 => ?_) (fun hc14 => ?_)
    ·have hp14 := hc14; simp only [Bool.and_eq_true, Bool.or_eq_true, Bool.and_eq_false_iff, Bool.or_eq_false_iff, Bool.not_eq_true', Bool.not_eq_false', decide_eq_true_eq, decide_eq_false_iff_not] at hp14; have hfd := hc14; refine W.region (by rfl) ?_; refine L.val rfl (op_load (v := (a[k]! : Vt)) rfl rfl ty47 hB5.cells) ?_; refine L.step rfl (op_fillbox (v := (Enc.val (a[k]! : Vt))) (vs := Enc.cells (a[k]! : Vt)) rfl s3_8 rfl rfl si47 hB2 (by simp [Enc.len]) (Enc.one _)) ?_; rintro _ w15 ⟨hB15, hg15⟩; have hE := hE.grown hg15 (by intro k hk; cases hk; exact hbb2_hE); have hR_a := S0_hR_a.ext hE; have hB1 := hB1.far hg15 (by simpa using hne12); have hB2 := hB15; refine L.val (v := (.bool true)) rfl (op_assign rfl rfl) ?_; refine L.nil ?_; refine blockF_nor ?_; refine thenF_nor ?_; refine W.region (by rfl) ?_; refine L.val rfl (op_move rfl s3_11) ?_; refine L.val rfl (op_add (c := ((k + 1 : Nat) : Int)) rfl rfl rfl (by omega) (by omega)) ?_; refine L.val rfl (op_assign rfl rfl) ?_; refine L.nil ?_; refine thenF_nor ?_; exact ⟨(k + 1, ior hv (rBit_f ((a[k]!).signer)), (a[k]! : Vt), true, un), ⟨(by (try dsimp only); omega), (by dsimp only; rw [fold_go (by omega), hst]; exact two_take (m := m) (v := v) (x := a[k]!) (y := y) (hv := hv) (fd := fd) (un := un) hskip hlk hfd), s3_0, s3_2, s3_4, s3_6, s3_8, rfl, rfl, rfl, s3_10, hR_a, hB1, hB2, hE⟩, (by (try dsimp only); omega)⟩
    ·have hp14 := hc14; simp only [Bool.and_eq_true, Bool.or_eq_true, Bool.and_eq_false_iff, Bool.or_eq_false_iff, Bool.not_eq_true', Bool.not_eq_false', decide_eq_true_eq, decide_eq_false_iff_not] at hp14; have hfd := hc14; refine W.skip ?_; refine blockF_nor ?_; refine thenF_nor ?_; refine W.region (by rfl) ?_; refine L.val rfl (op_move rfl s3_11) ?_; refine L.val rfl (op_add (c := ((k + 1 : Nat) : Int)) rfl rfl rfl (by omega) (by omega)) ?_; refine L.val rfl (op_assign rfl rfl) ?_; refine L.nil ?_; refine thenF_nor ?_; exact ⟨(k + 1, ior hv (rBit_f ((a[k]!).signer)), (y : Vt), fd, un), ⟨(by (try dsimp only); omega), (by dsimp only; rw [fold_go (by omega), hst]; exact two_take (m := m) (v := v) (x := a[k]!) (y := y) (hv := hv) (fd := fd) (un := un) hskip hlk hfd), s3_0, s3_2, s3_4, s3_6, s3_8, rfl, rfl, s3_9, s3_10, hR_a, hB1, hB2, hE⟩, (by (try dsimp only); omega)⟩
 ·have hp4 := hc4; simp only [Bool.and_eq_true, Bool.or_eq_true, Bool.and_eq_false_iff, Bool.or_eq_false_iff, Bool.not_eq_true', Bool.not_eq_false', decide_eq_true_eq, decide_eq_false_iff_not] at hp4; have hkl : k = a.length := by omega
  rw [hkl, List.take_length] at hst; have hts : two_s m v a = (hv, y, fd, un) := hst; refine W.exit ?_; refine thenF_exit ?_; refine thenF_exit ?_; refine blockF_hit ?_; refine thenF_nor ?_; refine W.seq ?_; refine W.drawS [Sp.eq (.bool un), Sp.eq (.bool un), Sp.eq (vif un (.int .i64 hv)), Sp.eq (vif un (.int .i64 (size_f hv))), Sp.eq (vif un (.pointer (some ⟨b1, 5, none⟩))), Sp.eq (vif un (.int .i64 v.support)), Sp.eq (vif un (.int .i64 (size_f v.support))), Sp.eq (vif un (.bool (decide ((size_f hv) = (size_f v.support))))), Sp.eq (.bool (un && (decide ((size_f hv) = (size_f v.support))))), Sp.eq (.bool (un && (decide ((size_f hv) = (size_f v.support))))), Sp.eq (vif (un && (decide ((size_f hv) = (size_f v.support)))) (.int .i64 m)), Sp.eq (vif (un && (decide ((size_f hv) = (size_f v.support)))) (.pointer (some ⟨b1, 5, none⟩))), Sp.eq (vif (un && (decide ((size_f hv) = (size_f v.support)))) (.int .i64 v.support)), Sp.eq (vif (un && (decide ((size_f hv) = (size_f v.support)))) (.bool (rExact_f m v.support))), Sp.eq (.bool ((un && (decide ((size_f hv) = (size_f v.support)))) && (rExact_f m v.support))), Sp.eq (.bool ((un && (decide ((size_f hv) = (size_f v.support)))) && (rExact_f m v.support)))] mixed (by rfl) (Obls.cons ?_ (Obls.cons ?_ (Obls.cons ?_ (Obls.cons ?_ (Obls.cons ?_ (Obls.cons ?_ (Obls.cons ?_ (Obls.cons ?_ (Obls.cons ?_ (Obls.cons ?_ (Obls.cons ?_ (Obls.cons ?_ (Obls.cons ?_ (Obls.cons ?_ (Obls.cons ?_ (Obls.cons ?_ Obls.nil)))))))))))))))) ?_
  ·intro f17 w17 hx17 ho17 hd17; have d17_s10 : f17 10 = (.bool un) := (ho17 10 rfl).trans s3_10; exact D.val rfl (op_move rfl d17_s10)
  ·intro f18 w18 hx18 ho18 hd18; have d18_0 : f18 63 = (.bool un) := hd18 0 rfl; exact D.val rfl (op_move rfl d18_0)
  ·intro f19 w19 hx19 ho19 hd19; have d19_s7 : f19 7 = (.int .i64 hv) := (ho19 7 rfl).trans s3_7; have d19_1 : f19 64 = (.bool un) := hd19 1 rfl; exact D.guardv (wanted_yes rfl rfl d19_1) (fun hg => (op_move rfl d19_s7))
  ·intro f20 w20 hx20 ho20 hd20; have d20_1 : f20 64 = (.bool un) := hd20 1 rfl; have d20_2 : f20 65 = (vif un (.int .i64 hv)) := hd20 2 rfl; exact D.guardc (wanted_yes rfl rfl d20_1) (fun hg => (OpS.call (op_call rfl (argsC ((show _ = vif _ (.int .i64 hv) from d20_2).trans (vif_t hg).symm) argsN) Tryz.func74 rfl rfl) rSize_ok))
  ·intro f21 w21 hx21 ho21 hd21; have d21_s4 : f21 4 = (.pointer (some ⟨b1, 0, none⟩)) := (ho21 4 rfl).trans s3_4; have d21_1 : f21 64 = (.bool un) := hd21 1 rfl; exact D.guardv (wanted_yes rfl rfl d21_1) (fun hg => (op_field rfl d21_s4 fo47_5 rfl))
  ·intro f22 w22 hx22 ho22 hd22; have d22_1 : f22 64 = (.bool un) := hd22 1 rfl; have d22_4 : f22 67 = (vif un (.pointer (some ⟨b1, 5, none⟩))) := hd22 4 rfl; have hB1 := hB1.ext hx22; exact D.guardv (wanted_yes rfl rfl d22_1) (fun hg => (op_load1 rfl ((show _ = vif _ (.pointer (some ⟨b1, 5, none⟩)) from d22_4).trans (vif_t hg).symm) one22 (hB1.cells.one (n := 5) rfl)))
  ·intro f23 w23 hx23 ho23 hd23; have d23_1 : f23 64 = (.bool un) := hd23 1 rfl; have d23_5 : f23 68 = (vif un (.int .i64 v.support)) := hd23 5 rfl; exact D.guardc (wanted_yes rfl rfl d23_1) (fun hg => (OpS.call (op_call rfl (argsC ((show _ = vif _ (.int .i64 v.support) from d23_5).trans (vif_t hg).symm) argsN) Tryz.func74 rfl rfl) rSize_ok))
  ·intro f24 w24 hx24 ho24 hd24; have d24_1 : f24 64 = (.bool un) := hd24 1 rfl; have d24_3 : f24 66 = (vif un (.int .i64 (size_f hv))) := hd24 3 rfl; have d24_6 : f24 69 = (vif un (.int .i64 (size_f v.support))) := hd24 6 rfl; exact D.guardv (wanted_yes rfl rfl d24_1) (fun hg => (op_eql rfl ((show _ = vif _ (.int .i64 (size_f hv)) from d24_3).trans (vif_t hg).symm) ((show _ = vif _ (.int .i64 (size_f v.support)) from d24_6).trans (vif_t hg).symm)))
  ·intro f25 w25 hx25 ho25 hd25; have d25_1 : f25 64 = (.bool un) := hd25 1 rfl; have d25_7 : f25 70 = (vif un (.bool (decide ((size_f hv) = (size_f v.support))))) := hd25 7 rfl; exact D.val rfl (op_and rfl d25_1 d25_7 rfl)
  ·intro f26 w26 hx26 ho26 hd26; have d26_8 : f26 71 = (.bool (un && (decide ((size_f hv) = (size_f v.support))))) := hd26 8 rfl; exact D.val rfl (op_move rfl d26_8)
  ·intro f27 w27 hx27 ho27 hd27; have d27_s0 : f27 0 = (.int .i64 m) := (ho27 0 rfl).trans s3_0; have d27_9 : f27 72 = (.bool (un && (decide ((size_f hv) = (size_f v.support))))) := hd27 9 rfl; exact D.guardv (wanted_yes rfl rfl d27_9) (fun hg => (op_move rfl d27_s0))
  ·intro f28 w28 hx28 ho28 hd28; have d28_s4 : f28 4 = (.pointer (some ⟨b1, 0, none⟩)) := (ho28 4 rfl).trans s3_4; have d28_9 : f28 72 = (.bool (un && (decide ((size_f hv) = (size_f v.support))))) := hd28 9 rfl; exact D.guardv (wanted_yes rfl rfl d28_9) (fun hg => (op_field rfl d28_s4 fo47_5 rfl))
  ·intro f29 w29 hx29 ho29 hd29; have d29_9 : f29 72 = (.bool (un && (decide ((size_f hv) = (size_f v.support))))) := hd29 9 rfl; have d29_11 : f29 74 = (vif (un && (decide ((size_f hv) = (size_f v.support)))) (.pointer (some ⟨b1, 5, none⟩))) := hd29 11 rfl; have hB1 := hB1.ext hx29; exact D.guardv (wanted_yes rfl rfl d29_9) (fun hg => (op_load1 rfl ((show _ = vif _ (.pointer (some ⟨b1, 5, none⟩)) from d29_11).trans (vif_t hg).symm) one22 (hB1.cells.one (n := 5) rfl)))
  ·intro f30 w30 hx30 ho30 hd30; have d30_9 : f30 72 = (.bool (un && (decide ((size_f hv) = (size_f v.support))))) := hd30 9 rfl; have d30_10 : f30 73 = (vif (un && (decide ((size_f hv) = (size_f v.support)))) (.int .i64 m)) := hd30 10 rfl; have d30_12 : f30 75 = (vif (un && (decide ((size_f hv) = (size_f v.support)))) (.int .i64 v.support)) := hd30 12 rfl; exact D.guardc (wanted_yes rfl rfl d30_9) (fun hg => (OpS.call (op_call rfl (argsC ((show _ = vif _ (.int .i64 m) from d30_10).trans (vif_t hg).symm) (argsC ((show _ = vif _ (.int .i64 v.support) from d30_12).trans (vif_t hg).symm) argsN)) Tryz.func151 rfl rfl) rExact_ok))
  ·intro f31 w31 hx31 ho31 hd31; have d31_9 : f31 72 = (.bool (un && (decide ((size_f hv) = (size_f v.support))))) := hd31 9 rfl; have d31_13 : f31 76 = (vif (un && (decide ((size_f hv) = (size_f v.support)))) (.bool (rExact_f m v.support))) := hd31 13 rfl; exact D.val rfl (op_and rfl d31_9 d31_13 rfl)
  ·intro f32 w32 hx32 ho32 hd32; have d32_14 : f32 77 = (.bool ((un && (decide ((size_f hv) = (size_f v.support)))) && (rExact_f m v.support))) := hd32 14 rfl; exact D.val rfl (op_assign rfl d32_14)
  intro f33 w33 hx33 ho33 hr33; have s6 : f33 6 = (.bool ((un && (decide ((size_f hv) = (size_f v.support)))) && (rExact_f m v.support))) := hr33 15 (by decide); have hE := hE.trans hx33; refine thenF_nor ?_; refine W.ret ?_; exact end_ret1 (v := (.bool ((un && (decide ((size_f hv) = (size_f v.support)))) && (rExact_f m v.support)))) rfl s6 ⟨(by unfold rTwo_f; rw [hts]), hE⟩
end Go.Proofs.YtdknjfmjddlphaaGreat
set_option linter.unusedSimpArgs false
set_option linter.unusedVariables false
namespace Go.Proofs.YtdknjfmjddlphaaGreat
open Go Go.Fk
set_option maxRecDepth 100000 in
set_option maxHeartbeats 4000000 in
theorem rAllowed_ok {m : Int} {v : Vt} {A_a : Option Addr} {c_a lo_a hi_a : Nat} {a : List Vt}  {w : World} (hR_a : Rd w lo_a hi_a A_a a) : Gives Tryz.prog 61 #[(.int .i64 m), (Enc.val (v : Vt)), (.slice A_a a.length c_a)] w fun u w' => u = (.bool (rAllowed_f m v a)) ∧ Ext w w' := by
 have hE : Ext w w := Ext.refl w; have hlen_a := hR_a.len; refine gives_of_W Tryz.func61 rfl Tryz.ntmps61 rfl ?_; refine W.seq ?_; refine W.region (by rfl) ?_; refine L.step rfl (op_box (cs := (Enc.cells (v : Vt))) rfl rfl rfl) ?_; rintro _ w1 ⟨b1, rfl, hb1, hB1, hx1⟩; have hE := hE.trans hx1; have hR_a := hR_a.ext hx1; refine L.val (v := (.bool false)) rfl (op_assign rfl rfl) ?_; refine L.nil ?_; refine thenF_nor ?_; refine W.seq ?_; refine W.seq ?_; refine W.region (by rfl) ?_; refine L.val rfl (op_load (v := (v : Vt)) rfl rfl ty47 hB1.cells) ?_; refine L.call (v := (.bool (rValid_f v))) rfl (OpS.call (op_call rfl (argsC rfl argsN) Tryz.func100 rfl rfl) rValid_ok) ?_; intro w2 hx2; have hE := hE.trans hx2; have hR_a := hR_a.ext hx2; have hB1 := hB1.ext hx2; refine L.val rfl (op_not rfl rfl) ?_; refine L.val rfl (op_move rfl rfl) ?_; refine L.guardv (v := (.pointer (some ⟨b1, 0, none⟩))) (wanted_no rfl rfl rfl) (fun hg => (op_field rfl rfl fo47_0 rfl)) ?_; refine L.guardv (v := (.int .i64 v.kind)) (wanted_no rfl rfl rfl) (fun hg => (op_load1 rfl ((show _ = vif _ (.pointer (some ⟨b1, 0, none⟩)) from rfl).trans (vif_t hg).symm) one3 (hB1.cells.one (n := 0) rfl))) ?_; refine L.guardv (v := (.bool (decide (4 < v.kind)))) (wanted_no rfl rfl rfl) (fun hg => (op_gtr rfl ((show _ = vif _ (.int .i64 v.kind) from rfl).trans (vif_t hg).symm) rfl)) ?_; refine L.val rfl (op_or rfl rfl rfl rfl) ?_; refine L.val rfl (op_move rfl rfl) ?_; refine L.guardv (v := (.int .i64 m)) (wanted_no rfl rfl rfl) (fun hg => (op_move rfl rfl)) ?_; refine L.guardv (v := (.pointer (some ⟨b1, 4, none⟩))) (wanted_no rfl rfl rfl) (fun hg => (op_field rfl rfl fo47_4 rfl)) ?_; refine L.guardv (v := (.int .i64 v.signer)) (wanted_no rfl rfl rfl) (fun hg => (op_load1 rfl ((show _ = vif _ (.pointer (some ⟨b1, 4, none⟩)) from rfl).trans (vif_t hg).symm) one3 (hB1.cells.one (n := 4) rfl))) ?_; refine L.guardc (v := (.bool (rHas_f m v.signer))) (wanted_no rfl rfl rfl) (fun hg => (OpS.call (op_call rfl (argsC ((show _ = vif _ (.int .i64 m) from rfl).trans (vif_t hg).symm) (argsC ((show _ = vif _ (.int .i64 v.signer) from rfl).trans (vif_t hg).symm) argsN)) Tryz.func101 rfl rfl) rHas_ok)) ?_; intro w3 hx3; have hE := hE.trans hx3; have hR_a := hR_a.ext hx3; have hB1 := hB1.ext hx3; refine L.guardv (v := (.bool (!(rHas_f m v.signer)))) (wanted_no rfl rfl rfl) (fun hg => (op_not rfl ((show _ = vif _ (.bool (rHas_f m v.signer)) from rfl).trans (vif_t hg).symm))) ?_; refine L.val rfl (op_or rfl rfl rfl rfl) ?_; refine L.val rfl (op_move rfl rfl) ?_; refine L.guardv (v := (.int .i64 m)) (wanted_no rfl rfl rfl) (fun hg => (op_move rfl rfl)) ?_; refine L.guardv (v := (.pointer (some ⟨b1, 1, none⟩))) (wanted_no rfl rfl rfl) (fun hg => (op_field rfl rfl fo47_1 rfl)) ?_; refine L.guardv (v := (.int .i64 v.slot)) (wanted_no rfl rfl rfl) (fun hg => (op_load1 rfl ((show _ = vif _ (.pointer (some ⟨b1, 1, none⟩)) from rfl).trans (vif_t hg).symm) one3 (hB1.cells.one (n := 1) rfl))) ?_; refine L.guardc (v := (.bool (rHas_f m v.slot))) (wanted_no rfl rfl rfl) (fun hg => (OpS.call (op_call rfl (argsC ((show _ = vif _ (.int .i64 m) from rfl).trans (vif_t hg).symm) (argsC ((show _ = vif _ (.int .i64 v.slot) from rfl).trans (vif_t hg).symm) argsN)) Tryz.func101 rfl rfl) rHas_ok)) ?_; intro w4 hx4; have hE := hE.trans hx4; have hR_a := hR_a.ext hx4; have hB1 := hB1.ext hx4; refine L.guardv (v := (.bool (!(rHas_f m v.slot)))) (wanted_no rfl rfl rfl) (fun hg => (op_not rfl ((show _ = vif _ (.bool (rHas_f m v.slot)) from rfl).trans (vif_t hg).symm))) ?_; refine L.val rfl (op_or rfl rfl rfl rfl) ?_; refine L.nil ?_; refine thenF_nor ?_; refine W.cond (t := (((!(rValid_f v)) || (decide (4 < v.kind))) || (!(rHas_f m v.signer))) || (!(rHas_f m v.slot))) rfl (fun hc5 => ?_) (fun hc5 => ?_)
 ·have hp5 := hc5; simp only [Bool.and_eq_true, Bool.or_eq_true, Bool.and_eq_false_iff, Bool.or_eq_false_iff, Bool.not_eq_true', Bool.not_eq_false', decide_eq_true_eq, decide_eq_false_iff_not] at hp5; refine W.seq ?_; refine W.region (by rfl) ?_; refine L.val (v := (.bool false)) rfl (op_assign rfl rfl) ?_; refine L.nil ?_; refine thenF_nor ?_; refine W.ret ?_; refine thenF_ret ?_; exact end_ret1 (v := (.bool false)) rfl rfl ⟨(by unfold rAllowed_f; rw [(show rGuard m v = _ from hc5), cond_true]), hE⟩
 ·have hp5 := hc5; simp only [Bool.and_eq_true, Bool.or_eq_true, Bool.and_eq_false_iff, Bool.or_eq_false_iff, Bool.not_eq_true', Bool.not_eq_false', decide_eq_true_eq, decide_eq_false_iff_not] at hp5; have hrb := rGuard_bounds (m := m) (v := v) hc5; obtain ⟨hrb0, hrb1⟩ := hrb; refine W.skip ?_; refine thenF_nor ?_; refine W.seq ?_; refine W.block ?_; refine W.seq ?_; refine W.region (by rfl) ?_; refine L.val rfl (op_field rfl rfl fo47_0 rfl) ?_; refine L.val rfl (op_load1 rfl rfl one3 (hB1.cells.one (n := 0) rfl)) ?_; refine L.val rfl (op_eql rfl rfl rfl) ?_; refine L.val rfl (op_assign rfl rfl) ?_; refine L.nil ?_; refine thenF_nor ?_; refine W.cond (t := decide (v.kind = 1)) rfl (fun hc6 => ?_) (fun hc6 => ?_)
  ·have hp6 := hc6; simp only [Bool.and_eq_true, Bool.or_eq_true, Bool.and_eq_false_iff, Bool.or_eq_false_iff, Bool.not_eq_true', Bool.not_eq_false', decide_eq_true_eq, decide_eq_false_iff_not] at hp6; refine W.seq ?_; refine W.region (by rfl) ?_; refine L.val rfl (op_field rfl rfl fo47_4 rfl) ?_; refine L.val rfl (op_load1 rfl rfl one3 (hB1.cells.one (n := 4) rfl)) ?_; refine L.val rfl (op_field rfl rfl fo47_1 rfl) ?_; refine L.val rfl (op_load1 rfl rfl one3 (hB1.cells.one (n := 1) rfl)) ?_; refine L.val rfl (op_eql rfl rfl rfl) ?_; refine L.val rfl (op_assign rfl rfl) ?_; refine L.nil ?_; refine thenF_nor ?_; refine W.ret ?_; refine blockF_ret ?_; refine thenF_ret ?_; exact end_ret1 (v := (.bool (decide (v.signer = v.slot)))) rfl rfl ⟨(by unfold rAllowed_f; rw [(show rGuard m v = _ from hc5), cond_false, hc6, cond_true]), hE⟩
  ·have hp6 := hc6; simp only [Bool.and_eq_true, Bool.or_eq_true, Bool.and_eq_false_iff, Bool.or_eq_false_iff, Bool.not_eq_true', Bool.not_eq_false', decide_eq_true_eq, decide_eq_false_iff_not] at hp6; refine W.seq ?_; refine W.region (by rfl) ?_; refine L.val rfl (op_field rfl rfl fo47_0 rfl) ?_; refine L.val rfl (op_load1 rfl rfl one3 (hB1.cells.one (n := 0) rfl)) ?_; refine L.val rfl (op_eql rfl rfl rfl) ?_; refine L.val rfl (op_assign rfl rfl) ?_; refine L.nil ?_; refine thenF_nor ?_; refine W.cond (t := decide (v.kind = 2)) rfl (fun hc7 => ?_) (fun hc7 => ?_)
   ·have hp7 := hc7; simp only [Bool.and_eq_true, Bool.or_eq_true, Bool.and_eq_false_iff, Bool.or_eq_false_iff, Bool.not_eq_true', Bool.not_eq_false', decide_eq_true_eq, decide_eq_false_iff_not] at hp7; refine W.seq ?_; refine W.seq ?_; refine W.region (by rfl) ?_; refine L.val rfl (op_assign rfl rfl) ?_; refine L.nil ?_; refine thenF_nor ?_; refine W.block ?_; have S8_hR_a := hR_a; have S8_hB1 := hB1; have S8_hE := hE; have hS8 : Ext w4 w4 := Ext.refl _; refine W.loopg (γ := Nat) (fun (j : Nat) (f : Fr) (ww : World) => j ≤ 10 ∧ ((List.range 10).drop j).any (fun k => (ecF m v a) (k : Int)) = anyTen (ecF m v a) ∧ f 0 = (.int .i64 m) ∧ f 2 = (.slice A_a a.length c_a) ∧ f 4 = (.pointer (some ⟨b1, 0, none⟩)) ∧ f 7 = (.int .i64 ((j : Nat) : Int)) ∧ Ext w4 ww) (fun (j : Nat) => 10 - j) 0 ⟨(by (try dsimp only); omega), rfl, rfl, rfl, rfl, rfl, hS8⟩ ?_; rintro j f9 w9 ⟨hj, hten, s9_0, s9_2, s9_4, s9_7, hS8⟩; have hR_a := S8_hR_a.ext hS8; have hB1 := S8_hB1.ext hS8; have hE := S8_hE.trans hS8; refine W.seq ?_; refine W.seq ?_; refine W.region (by rfl) ?_; refine L.val rfl (op_move rfl s9_7) ?_; refine L.val rfl (op_lss rfl rfl rfl) ?_; refine L.nil ?_; refine thenF_nor ?_; refine W.cond (t := decide (((j : Nat) : Int) < 10)) rfl (fun hc10 => ?_) (fun hc10 => ?_)
    ·have hp10 := hc10; simp only [Bool.and_eq_true, Bool.or_eq_true, Bool.and_eq_false_iff, Bool.or_eq_false_iff, Bool.not_eq_true', Bool.not_eq_false', decide_eq_true_eq, decide_eq_false_iff_not] at hp10; refine W.skip ?_; refine thenF_nor ?_; refine W.seq ?_; refine W.block ?_; refine W.seq ?_; refine W.region (by rfl) ?_; refine L.val rfl (op_move rfl s9_0) ?_; refine L.val rfl (op_load (v := (v : Vt)) rfl s9_4 ty47 hB1.cells) ?_; refine L.val rfl (op_move rfl s9_2) ?_; refine L.val rfl (op_move rfl s9_7) ?_; refine L.call (v := (.bool (a.any (fun x => sdF_f m v x ((j : Nat) : Int) 1 0)))) rfl (OpS.call (op_call rfl (argsC rfl (argsC rfl (argsC rfl (argsC rfl (argsC rfl (argsC rfl (argsC rfl argsN))))))) Tryz.func102 rfl rfl) (saidF_ok hR_a)) ?_; intro w11 hx11; have hE := hE.trans hx11; have hS8 := hS8.trans hx11; refine L.nil ?_; refine thenF_nor ?_; refine W.cond (t := a.any (fun x => sdF_f m v x ((j : Nat) : Int) 1 0)) rfl (fun hc12 => ?_) (fun hc12 => ?_)
     ·have hp12 := hc12; have hten1 := ten_yes (p := (ecF m v a)) hten (by omega) hc12; refine W.seq ?_; refine W.region (by rfl) ?_; refine L.val (v := (.bool true)) rfl (op_assign rfl rfl) ?_; refine L.nil ?_; refine thenF_nor ?_; refine W.ret ?_; refine blockF_ret ?_; refine thenF_ret ?_; refine thenF_ret ?_; refine blockF_ret ?_; refine thenF_ret ?_; refine blockF_ret ?_; refine thenF_ret ?_; exact end_ret1 (v := (.bool true)) rfl rfl ⟨(by unfold rAllowed_f; rw [(show rGuard m v = _ from hc5), cond_false, hc6, cond_false, hc7, cond_true, ← hten1]), hE⟩
     ·have hp12 := hc12; have hnoT : (ecF m v a) (j : Int) = false := hc12; refine W.skip ?_; refine blockF_nor ?_; refine thenF_nor ?_; refine W.region (by rfl) ?_; refine L.val rfl (op_move rfl s9_7) ?_; refine L.val rfl (op_add (c := ((j + 1 : Nat) : Int)) rfl rfl rfl (by omega) (by omega)) ?_; refine L.val rfl (op_assign rfl rfl) ?_; refine L.nil ?_; refine thenF_nor ?_; exact ⟨j + 1, ⟨(by (try dsimp only); omega), (ten_go (p := (ecF m v a)) hten (by omega) hnoT), s9_0, s9_2, s9_4, rfl, hS8⟩, (by (try dsimp only); omega)⟩
    ·have hp10 := hc10; simp only [Bool.and_eq_true, Bool.or_eq_true, Bool.and_eq_false_iff, Bool.or_eq_false_iff, Bool.not_eq_true', Bool.not_eq_false', decide_eq_true_eq, decide_eq_false_iff_not] at hp10; have hten0 := ten_end (p := (ecF m v a)) hten (by omega); refine W.exit ?_; refine thenF_exit ?_; refine thenF_exit ?_; refine blockF_hit ?_; refine thenF_nor ?_; refine W.seq ?_; refine W.region (by rfl) ?_; refine L.val (v := (.bool false)) rfl (op_assign rfl rfl) ?_; refine L.nil ?_; refine thenF_nor ?_; refine W.ret ?_; refine blockF_ret ?_; refine thenF_ret ?_; exact end_ret1 (v := (.bool false)) rfl rfl ⟨(by unfold rAllowed_f; rw [(show rGuard m v = _ from hc5), cond_false, hc6, cond_false, hc7, cond_true, ← hten0]), hE⟩
   ·have hp7 := hc7; simp only [Bool.and_eq_true, Bool.or_eq_true, Bool.and_eq_false_iff, Bool.or_eq_false_iff, Bool.not_eq_true', Bool.not_eq_false', decide_eq_true_eq, decide_eq_false_iff_not] at hp7; refine W.seq ?_; refine W.region (by rfl) ?_; refine L.val rfl (op_field rfl rfl fo47_0 rfl) ?_; refine L.val rfl (op_load1 rfl rfl one3 (hB1.cells.one (n := 0) rfl)) ?_; refine L.val rfl (op_eql rfl rfl rfl) ?_; refine L.val rfl (op_move rfl rfl) ?_; refine L.guardv (v := (.pointer (some ⟨b1, 2, none⟩))) (wanted_yes rfl rfl rfl) (fun hg => (op_field rfl rfl fo47_2 rfl)) ?_; refine L.guardv (v := (.int .i64 v.round)) (wanted_yes rfl rfl rfl) (fun hg => (op_load1 rfl ((show _ = vif _ (.pointer (some ⟨b1, 2, none⟩)) from rfl).trans (vif_t hg).symm) one3 (hB1.cells.one (n := 2) rfl))) ?_; refine L.guardv (v := (.bool (decide (v.round = 1)))) (wanted_yes rfl rfl rfl) (fun hg => (op_eql rfl ((show _ = vif _ (.int .i64 v.round) from rfl).trans (vif_t hg).symm) rfl)) ?_; refine L.val rfl (op_and rfl rfl rfl rfl) ?_; refine L.val rfl (op_assign rfl rfl) ?_; refine L.nil ?_; refine thenF_nor ?_; refine W.cond (t := (decide (v.kind = 3)) && (decide (v.round = 1))) rfl (fun hc13 => ?_) (fun hc13 => ?_)
    ·have hp13 := hc13; simp only [Bool.and_eq_true, Bool.or_eq_true, Bool.and_eq_false_iff, Bool.or_eq_false_iff, Bool.not_eq_true', Bool.not_eq_false', decide_eq_true_eq, decide_eq_false_iff_not] at hp13; refine W.seq ?_; refine W.region (by rfl) ?_; refine L.val rfl (op_field rfl rfl fo47_3 rfl) ?_; refine L.val rfl (op_load1 rfl rfl one3 (hB1.cells.one (n := 3) rfl)) ?_; refine L.val rfl (op_eql rfl rfl rfl) ?_; refine L.val rfl (op_move rfl rfl) ?_; refine L.guardv (v := (.int .i64 m)) (wanted_no rfl rfl rfl) (fun hg => (op_move rfl rfl)) ?_; refine L.guardv (v := (Enc.val (v : Vt))) (wanted_no rfl rfl rfl) (fun hg => (op_load (v := (v : Vt)) rfl rfl ty47 hB1.cells)) ?_; refine L.guardv (v := (.slice A_a a.length c_a)) (wanted_no rfl rfl rfl) (fun hg => (op_move rfl rfl)) ?_; refine L.guardc (v := (.bool (rAll_f m v a 2 0))) (wanted_no rfl rfl rfl) (fun hg => (OpS.call (op_call rfl (argsC ((show _ = vif _ (.int .i64 m) from rfl).trans (vif_t hg).symm) (argsC ((show _ = vif _ (Enc.val (v : Vt)) from rfl).trans (vif_t hg).symm) (argsC ((show _ = vif _ (.slice A_a a.length c_a) from rfl).trans (vif_t hg).symm) (argsC rfl (argsC rfl argsN))))) Tryz.func103 rfl rfl) (rAll_ok hR_a))) ?_; intro w14 hx14; have hE := hE.trans hx14; refine L.val rfl (op_or rfl rfl rfl rfl) ?_; refine L.val rfl (op_assign rfl rfl) ?_; refine L.nil ?_; refine thenF_nor ?_; refine W.ret ?_; refine blockF_ret ?_; refine thenF_ret ?_; exact end_ret1 (v := (.bool ((decide (v.choice = 0)) || (rAll_f m v a 2 0)))) rfl rfl ⟨(by unfold rAllowed_f; rw [(show rGuard m v = _ from hc5), cond_false, hc6, cond_false, hc7, cond_false, hc13, cond_true]), hE⟩
    ·have hp13 := hc13; simp only [Bool.and_eq_true, Bool.or_eq_true, Bool.and_eq_false_iff, Bool.or_eq_false_iff, Bool.not_eq_true', Bool.not_eq_false', decide_eq_true_eq, decide_eq_false_iff_not] at hp13; refine W.seq ?_; refine W.region (by rfl) ?_; refine L.val rfl (op_field rfl rfl fo47_0 rfl) ?_; refine L.val rfl (op_load1 rfl rfl one3 (hB1.cells.one (n := 0) rfl)) ?_; refine L.val rfl (op_eql rfl rfl rfl) ?_; refine L.val rfl (op_assign rfl rfl) ?_; refine L.nil ?_; refine thenF_nor ?_; refine W.cond (t := decide (v.kind = 3)) rfl (fun hc15 => ?_) (fun hc15 => ?_)
     ·have hp15 := hc15; simp only [Bool.and_eq_true, Bool.or_eq_true, Bool.and_eq_false_iff, Bool.or_eq_false_iff, Bool.not_eq_true', Bool.not_eq_false', decide_eq_true_eq, decide_eq_false_iff_not] at hp15; refine W.seq ?_; refine W.region (by rfl) ?_; refine L.val rfl (op_move rfl rfl) ?_; refine L.val rfl (op_load (v := (v : Vt)) rfl rfl ty47 hB1.cells) ?_; refine L.val rfl (op_move rfl rfl) ?_; refine L.call (v := (.bool (rAdopts_f m v a))) rfl (OpS.call (op_call rfl (argsC rfl (argsC rfl (argsC rfl argsN))) Tryz.func104 rfl rfl) (rAdopts_ok hR_a (by first | omega | (simp only [List.length_drop, List.length_take, List.length_append, List.length_cons, List.length_nil] at *; omega)) (by first | omega | (simp only [List.length_drop, List.length_take, List.length_append, List.length_cons, List.length_nil] at *; omega)))) ?_; intro w16 hx16; have hE := hE.trans hx16; have hR_a := hR_a.ext hx16; have hB1 := hB1.ext hx16; refine L.val rfl (op_move rfl rfl) ?_; refine L.guardv (v := (.int .i64 m)) (wanted_no rfl rfl rfl) (fun hg => (op_move rfl rfl)) ?_; refine L.guardv (v := (Enc.val (v : Vt))) (wanted_no rfl rfl rfl) (fun hg => (op_load (v := (v : Vt)) rfl rfl ty47 hB1.cells)) ?_; refine L.guardv (v := (.slice A_a a.length c_a)) (wanted_no rfl rfl rfl) (fun hg => (op_move rfl rfl)) ?_; refine L.guardc (v := (.bool (rCarries_f m v a))) (wanted_no rfl rfl rfl) (fun hg => by have hp := hg; (try simp only [Bool.and_eq_true, Bool.or_eq_true, Bool.not_eq_true', decide_eq_true_eq, decide_eq_false_iff_not, bne_iff_ne, beq_iff_eq] at hp); exact (OpS.call (op_call rfl (argsC ((show _ = vif _ (.int .i64 m) from rfl).trans (vif_t hg).symm) (argsC ((show _ = vif _ (Enc.val (v : Vt)) from rfl).trans (vif_t hg).symm) (argsC ((show _ = vif _ (.slice A_a a.length c_a) from rfl).trans (vif_t hg).symm) argsN))) Tryz.func105 rfl rfl) (rCarries_ok hR_a (by first | omega | (simp only [List.length_drop, List.length_take, List.length_append, List.length_cons, List.length_nil] at *; omega)) (by first | omega | (simp only [List.length_drop, List.length_take, List.length_append, List.length_cons, List.length_nil] at *; omega))))) ?_; intro w17 hx17; have hE := hE.trans hx17; refine L.val rfl (op_or rfl rfl rfl rfl) ?_; refine L.val rfl (op_assign rfl rfl) ?_; refine L.nil ?_; refine thenF_nor ?_; refine W.ret ?_; refine blockF_ret ?_; refine thenF_ret ?_; exact end_ret1 (v := (.bool ((rAdopts_f m v a) || (rCarries_f m v a)))) rfl rfl ⟨(by unfold rAllowed_f; rw [(show rGuard m v = _ from hc5), cond_false, hc6, cond_false, hc7, cond_false, hc13, cond_false, hc15, cond_true]), hE⟩
     ·have hp15 := hc15; simp only [Bool.and_eq_true, Bool.or_eq_true, Bool.and_eq_false_iff, Bool.or_eq_false_iff, Bool.not_eq_true', Bool.not_eq_false', decide_eq_true_eq, decide_eq_false_iff_not] at hp15; refine W.seq ?_; refine W.region (by rfl) ?_; refine L.val rfl (op_field rfl rfl fo47_3 rfl) ?_; refine L.val rfl (op_load1 rfl rfl one3 (hB1.cells.one (n := 3) rfl)) ?_; refine L.val rfl (op_eql rfl rfl rfl) ?_; refine L.val rfl (op_assign rfl rfl) ?_; refine L.nil ?_; refine thenF_nor ?_; refine W.cond (t := decide (v.choice = 2)) rfl (fun hc18 => ?_) (fun hc18 => ?_)
      ·have hp18 := hc18; simp only [Bool.and_eq_true, Bool.or_eq_true, Bool.and_eq_false_iff, Bool.or_eq_false_iff, Bool.not_eq_true', Bool.not_eq_false', decide_eq_true_eq, decide_eq_false_iff_not] at hp18; refine W.seq ?_; refine W.region (by rfl) ?_; refine L.val rfl (op_move rfl rfl) ?_; refine L.val rfl (op_load (v := (v : Vt)) rfl rfl ty47 hB1.cells) ?_; refine L.val rfl (op_move rfl rfl) ?_; refine L.call (v := (.bool (rTwo_f m v a))) rfl (OpS.call (op_call rfl (argsC rfl (argsC rfl (argsC rfl argsN))) Tryz.func106 rfl rfl) (rTwo_ok hR_a)) ?_; intro w19 hx19; have hE := hE.trans hx19; refine L.val rfl (op_assign rfl rfl) ?_; refine L.nil ?_; refine thenF_nor ?_; refine W.ret ?_; refine blockF_ret ?_; refine thenF_ret ?_; exact end_ret1 (v := (.bool (rTwo_f m v a))) rfl rfl ⟨(by unfold rAllowed_f; rw [(show rGuard m v = _ from hc5), cond_false, hc6, cond_false, hc7, cond_false, hc13, cond_false, hc15, cond_false, hc18, cond_true]), hE⟩
      ·have hp18 := hc18; simp only [Bool.and_eq_true, Bool.or_eq_true, Bool.and_eq_false_iff, Bool.or_eq_false_iff, Bool.not_eq_true', Bool.not_eq_false', decide_eq_true_eq, decide_eq_false_iff_not] at hp18; refine W.skip ?_; refine blockF_nor ?_; refine thenF_nor ?_; refine W.seq ?_; refine W.region (by rfl) ?_; refine L.val rfl (op_move rfl rfl) ?_; refine L.val rfl (op_load (v := (v : Vt)) rfl rfl ty47 hB1.cells) ?_; refine L.val rfl (op_move rfl rfl) ?_; refine L.val rfl (op_field rfl rfl fo47_2 rfl) ?_; refine L.val rfl (op_load1 rfl rfl one3 (hB1.cells.one (n := 2) rfl)) ?_; refine L.call (v := (.bool (rAll_f m v a 3 v.round))) rfl (OpS.call (op_call rfl (argsC rfl (argsC rfl (argsC rfl (argsC rfl (argsC rfl argsN))))) Tryz.func103 rfl rfl) (rAll_ok hR_a)) ?_; intro w20 hx20; have hE := hE.trans hx20; refine L.val rfl (op_assign rfl rfl) ?_; refine L.nil ?_; refine thenF_nor ?_; refine W.ret ?_; exact end_ret1 (v := (.bool (rAll_f m v a 3 v.round))) rfl rfl ⟨(by unfold rAllowed_f; rw [(show rGuard m v = _ from hc5), cond_false, hc6, cond_false, hc7, cond_false, hc13, cond_false, hc15, cond_false, hc18, cond_false]), hE⟩
end Go.Proofs.YtdknjfmjddlphaaGreat
set_option linter.unusedSimpArgs false
set_option linter.unusedVariables false
namespace Go.Proofs.YtdknjfmjddlphaaGreat
open Go Go.Fk
set_option maxRecDepth 100000 in
theorem rSlot_ok {A_a : Option Addr} {c_a lo_a hi_a : Nat} {a : List Vt} {slot : Int}  {w : World} (hR_a : Rd w lo_a hi_a A_a a) (hl : a.length ≤ 1000000) : Gives Tryz.prog 54 #[(.slice A_a a.length c_a), (.int .i64 slot)] w fun u w' => SlR w' u (a.filter (fun x : Vt => decide (x.slot = slot)) : List Vt) ∧ Ext w w' := by
 have hE : Ext w w := Ext.refl w; have hlen_a := hR_a.len; refine gives_of_W Tryz.func54 rfl Tryz.ntmps54 rfl ?_; refine W.seq ?_; refine W.region (by rfl) ?_; refine L.val rfl (op_assign rfl rfl) ?_; refine L.nil ?_; refine thenF_nor ?_; refine W.seq ?_; refine W.region (by rfl) ?_; refine L.val rfl (op_assign rfl rfl) ?_; refine L.nil ?_; refine thenF_nor ?_; refine W.seq ?_; refine W.seq ?_; refine W.region (by rfl) ?_; refine L.val rfl (op_assign rfl rfl) ?_; refine L.nil ?_; refine thenF_nor ?_; refine W.block ?_; have S1_hR_a := hR_a; have S1_hE := hE; have hS1 : Ext w w := Ext.refl _; refine W.loopg (γ := Nat) (fun (k : Nat) (f : Fr) (ww : World) => k ≤ a.length ∧ f 0 = (.slice A_a a.length c_a) ∧ f 1 = (.int .i64 slot) ∧ f 4 = (.slice none 0 0) ∧ f 6 = (.int .i64 ((k : Nat) : Int)) ∧ Fk.Own ww w.heap.size 47 (f 5) ((a.take k).filter (fun x : Vt => decide (x.slot = slot))) ∧ Ext w ww) (fun (k : Nat) => a.length - k) 0 ⟨(by (try dsimp only); omega), rfl, rfl, rfl, rfl, (own_at (v := .slice none 0 0) rfl (Fk.Own.nil _ _ _)), hS1⟩ ?_; rintro k f2 w2 ⟨hk, s2_0, s2_1, s2_4, s2_6, hO2_5, hS1⟩; have hR_a := S1_hR_a.ext hS1; have hE := S1_hE.trans hS1; obtain ⟨v2_5, s2_5⟩ : ∃ v, f2 5 = v := ⟨_, rfl⟩; rw [s2_5] at hO2_5; have hfl := List.length_filter_le (fun x : Vt => decide (x.slot = slot)) (a.take k); have htl := List.length_take_le' k a; refine W.seq ?_; refine W.seq ?_; refine W.region (by rfl) ?_; refine L.val rfl (op_move rfl s2_6) ?_; refine L.val rfl (op_move rfl s2_0) ?_; refine L.val rfl (op_len rfl rfl ln25) ?_; refine L.val rfl (op_lss rfl rfl rfl) ?_; refine L.nil ?_; refine thenF_nor ?_; refine W.cond (t := decide (((k : Nat) : Int) < (a.length : Int))) rfl (fun hc3 => ?_) (fun hc3 => ?_)
 ·have hp3 := hc3; simp only [Bool.and_eq_true, Bool.or_eq_true, Bool.and_eq_false_iff, Bool.or_eq_false_iff, Bool.not_eq_true', Bool.not_eq_false', decide_eq_true_eq, decide_eq_false_iff_not] at hp3; refine W.skip ?_; refine thenF_nor ?_; refine W.seq ?_; refine W.block ?_; refine W.seq ?_; refine W.region (by rfl) ?_; refine L.val rfl (op_move rfl s2_0) ?_; refine L.val rfl (op_move rfl s2_6) ?_; refine L.val rfl (op_index (k := k) rfl rfl rfl sl25 (hR_a.getA (get_bang (l := a) (k := k) (by omega))).1 rfl (by omega) rfl) ?_; refine L.val rfl (op_field rfl rfl fo47_1 rfl) ?_; refine L.val rfl (op_load1 rfl rfl one3 ((hR_a.getA (get_bang (l := a) (k := k) (by omega))).2.one (n := 1) rfl)) ?_; refine L.val rfl (op_move rfl s2_1) ?_; refine L.val rfl (op_eql rfl rfl rfl) ?_; refine L.nil ?_; refine thenF_nor ?_; refine W.cond (t := decide (((a[k]!).slot) = slot)) rfl (fun hc4 => ?_) (fun hc4 => ?_)
  ·have hp4 := hc4; simp only [Bool.and_eq_true, Bool.or_eq_true, Bool.and_eq_false_iff, Bool.or_eq_false_iff, Bool.not_eq_true', Bool.not_eq_false', decide_eq_true_eq, decide_eq_false_iff_not] at hp4; have hstep := filter_yes (l := a) (p := (fun x : Vt => decide (x.slot = slot))) (k := k) (by omega) hc4; refine W.region (by rfl) ?_; refine L.val rfl (op_move rfl s2_5) ?_; refine L.val rfl (op_move rfl s2_0) ?_; refine L.val rfl (op_move rfl s2_6) ?_; refine L.val rfl (op_index (k := k) rfl rfl rfl sl25 (hR_a.getA (get_bang (l := a) (k := k) (by omega))).1 rfl (by omega) rfl) ?_; refine L.val rfl (op_load (v := (a[k]! : Vt)) rfl rfl ty47 (hR_a.getA (get_bang (l := a) (k := k) (by omega))).2) ?_; refine L.step rfl (op_slice1 (a := (a[k]! : Vt)) rfl rfl sl25 zs47 (by decide)) ?_; rintro _ w5 ⟨b5, rfl, hb5, hB5, hx5⟩; have hE := hE.trans hx5; have hS1 := hS1.trans hx5; have hO2_5 := hO2_5.ext hx5; refine L.step rfl (op_append (a := (a[k]! : Vt)) (ad := ⟨b5, 0, none⟩) rfl rfl rfl sl25 zs47 bt47 hO2_5 hB5.cells (by omega) (by decide) hS1.size) ?_; rintro v6 w6 ⟨hO6, hg6⟩; have hS1 := hS1.own hO2_5 hg6; have hE := S1_hE.trans hS1; refine L.val rfl (op_assign rfl rfl) ?_; refine L.nil ?_; refine blockF_nor ?_; refine thenF_nor ?_; refine W.region (by rfl) ?_; refine L.val rfl (op_move rfl s2_6) ?_; refine L.val rfl (op_add (c := ((k + 1 : Nat) : Int)) rfl rfl rfl (by omega) (by omega)) ?_; refine L.val rfl (op_assign rfl rfl) ?_; refine L.nil ?_; refine thenF_nor ?_; exact ⟨k + 1, ⟨(by (try dsimp only); omega), s2_0, s2_1, s2_4, rfl, (own_at (v := v6) rfl (by rw [← hstep]; exact hO6)), hS1⟩, (by (try dsimp only); omega)⟩
  ·have hp4 := hc4; simp only [Bool.and_eq_true, Bool.or_eq_true, Bool.and_eq_false_iff, Bool.or_eq_false_iff, Bool.not_eq_true', Bool.not_eq_false', decide_eq_true_eq, decide_eq_false_iff_not] at hp4; have hstep := filter_no (l := a) (p := (fun x : Vt => decide (x.slot = slot))) (k := k) (by omega) hc4; refine W.skip ?_; refine blockF_nor ?_; refine thenF_nor ?_; refine W.region (by rfl) ?_; refine L.val rfl (op_move rfl s2_6) ?_; refine L.val rfl (op_add (c := ((k + 1 : Nat) : Int)) rfl rfl rfl (by omega) (by omega)) ?_; refine L.val rfl (op_assign rfl rfl) ?_; refine L.nil ?_; refine thenF_nor ?_; exact ⟨k + 1, ⟨(by (try dsimp only); omega), s2_0, s2_1, s2_4, rfl, (own_at (v := v2_5) s2_5 (by rw [← hstep]; exact hO2_5)), hS1⟩, (by (try dsimp only); omega)⟩
 ·have hp3 := hc3; simp only [Bool.and_eq_true, Bool.or_eq_true, Bool.and_eq_false_iff, Bool.or_eq_false_iff, Bool.not_eq_true', Bool.not_eq_false', decide_eq_true_eq, decide_eq_false_iff_not] at hp3; have hkl : k = a.length := by omega
  rw [hkl, List.take_length] at hO2_5; refine W.exit ?_; refine thenF_exit ?_; refine thenF_exit ?_; refine blockF_hit ?_; refine thenF_nor ?_; refine W.seq ?_; obtain ⟨A7, c7, hv7, hR7, hcap7⟩ := (hO2_5).form; have hlen7 := hR7.len; refine W.region (by rfl) ?_; refine L.val rfl (op_move rfl ((show _ = v2_5 from s2_5).trans hv7)) ?_; refine L.val rfl (op_assign rfl rfl) ?_; refine L.nil ?_; refine thenF_nor ?_; refine W.ret ?_; exact end_ret1 (v := (.slice A7 (a.filter (fun x : Vt => decide (x.slot = slot))).length c7)) rfl rfl ⟨(⟨_, _, _, _, rfl, hcap7, hR7⟩ : SlR _ _ _), hE⟩
set_option maxRecDepth 100000 in
theorem rWho_ok {A_a : Option Addr} {c_a lo_a hi_a : Nat} {a : List Vt} {kind : Int} {round : Int} {choice : Int} {value : Nm}  {w : World} (hR_a : Rd w lo_a hi_a A_a a) : Gives Tryz.prog 58 #[(.slice A_a a.length c_a), (.int .i64 kind), (.int .i64 round), (.int .i64 choice), (Enc.val (value : Nm))] w fun u w' => u = (.int .i64 (rWho_f a kind round choice value)) ∧ Ext w w' := by
 have hE : Ext w w := Ext.refl w; have hlen_a := hR_a.len; refine gives_of_W Tryz.func58 rfl Tryz.ntmps58 rfl ?_; refine W.seq ?_; refine W.region (by rfl) ?_; refine L.step rfl (op_box (cs := (Enc.cells (value : Nm))) rfl rfl rfl) ?_; rintro _ w1 ⟨b1, rfl, hb1, hB1, hx1⟩; have hE := hE.trans hx1; have hR_a := hR_a.ext hx1; refine L.val rfl (op_assign rfl rfl) ?_; refine L.nil ?_; refine thenF_nor ?_; refine W.seq ?_; refine W.region (by rfl) ?_; refine L.val rfl (op_assign rfl rfl) ?_; refine L.nil ?_; refine thenF_nor ?_; refine W.seq ?_; refine W.seq ?_; refine W.region (by rfl) ?_; refine L.val rfl (op_assign rfl rfl) ?_; refine L.nil ?_; refine thenF_nor ?_; refine W.block ?_; have S2_hR_a := hR_a; have S2_hB1 := hB1; have S2_hE := hE; have hS2 : Ext w1 w1 := Ext.refl _; refine W.loopg (γ := Nat × Int) (fun (g : Nat × Int) (f : Fr) (ww : World) => g.1 ≤ a.length ∧ (a.take g.1).foldl (whoStep kind round choice value) 0 = g.2 ∧ f 0 = (.slice A_a a.length c_a) ∧ f 1 = (.int .i64 kind) ∧ f 2 = (.int .i64 round) ∧ f 3 = (.int .i64 choice) ∧ f 9 = (.pointer (some ⟨b1, 0, none⟩)) ∧ f 10 = (.int .i64 0) ∧ f 12 = (.int .i64 ((g.1 : Nat) : Int)) ∧ f 11 = (.int .i64 g.2) ∧ Ext w1 ww) (fun (g : Nat × Int) => a.length - g.1) (0, 0) ⟨(by (try dsimp only); omega), rfl, rfl, rfl, rfl, rfl, rfl, rfl, rfl, rfl, hS2⟩ ?_; rintro ⟨k, t⟩ f3 w3 ⟨hk, hst, s3_0, s3_1, s3_2, s3_3, s3_9, s3_10, s3_12, s3_11, hS2⟩; dsimp only at hk hst s3_0 s3_1 s3_2 s3_3 s3_9 s3_10 s3_12 s3_11 hS2; have hR_a := S2_hR_a.ext hS2; have hB1 := S2_hB1.ext hS2; have hE := S2_hE.trans hS2; refine W.seq ?_; refine W.seq ?_; refine W.region (by rfl) ?_; refine L.val rfl (op_move rfl s3_12) ?_; refine L.val rfl (op_move rfl s3_0) ?_; refine L.val rfl (op_len rfl rfl ln25) ?_; refine L.val rfl (op_lss rfl rfl rfl) ?_; refine L.nil ?_; refine thenF_nor ?_; refine W.cond (t := decide (((k : Nat) : Int) < (a.length : Int))) rfl (fun hc4 => ?_) (fun hc4 => ?_)
 ·have hp4 := hc4; simp only [Bool.and_eq_true, Bool.or_eq_true, Bool.and_eq_false_iff, Bool.or_eq_false_iff, Bool.not_eq_true', Bool.not_eq_false', decide_eq_true_eq, decide_eq_false_iff_not] at hp4; refine W.skip ?_; refine thenF_nor ?_; refine W.seq ?_; refine W.block ?_; refine W.seq ?_; refine W.drawS [Sp.eq (.slice A_a a.length c_a), Sp.eq (.int .i64 ((k : Nat) : Int)), Sp.eq (.pointer (some ((adr A_a).add (k * 22)))), Sp.eq (.pointer (some ((adr A_a).add (k * 22)))), Sp.eq (.int .i64 ((a[k]!).kind)), Sp.eq (.int .i64 kind), Sp.eq (.bool (decide (((a[k]!).kind) = kind))), Sp.eq (.bool (decide (((a[k]!).kind) = kind))), Sp.eq (vif (decide (((a[k]!).kind) = kind)) (.slice A_a a.length c_a)), Sp.eq (vif (decide (((a[k]!).kind) = kind)) (.int .i64 ((k : Nat) : Int))), Sp.eq (vif (decide (((a[k]!).kind) = kind)) (.pointer (some ((adr A_a).add (k * 22))))), Sp.eq (vif (decide (((a[k]!).kind) = kind)) (.pointer (some (((adr A_a).add (k * 22)).add 2)))), Sp.eq (vif (decide (((a[k]!).kind) = kind)) (.int .i64 ((a[k]!).round))), Sp.eq (vif (decide (((a[k]!).kind) = kind)) (.int .i64 round)), Sp.eq (vif (decide (((a[k]!).kind) = kind)) (.bool (decide (((a[k]!).round) = round)))), Sp.eq (.bool ((decide (((a[k]!).kind) = kind)) && (decide (((a[k]!).round) = round)))), Sp.eq (.bool ((decide (((a[k]!).kind) = kind)) && (decide (((a[k]!).round) = round)))), Sp.eq (vif ((decide (((a[k]!).kind) = kind)) && (decide (((a[k]!).round) = round))) (.slice A_a a.length c_a)), Sp.eq (vif ((decide (((a[k]!).kind) = kind)) && (decide (((a[k]!).round) = round))) (.int .i64 ((k : Nat) : Int))), Sp.eq (vif ((decide (((a[k]!).kind) = kind)) && (decide (((a[k]!).round) = round))) (.pointer (some ((adr A_a).add (k * 22))))), Sp.eq (vif ((decide (((a[k]!).kind) = kind)) && (decide (((a[k]!).round) = round))) (.pointer (some (((adr A_a).add (k * 22)).add 3)))), Sp.eq (vif ((decide (((a[k]!).kind) = kind)) && (decide (((a[k]!).round) = round))) (.int .i64 ((a[k]!).choice))), Sp.eq (vif ((decide (((a[k]!).kind) = kind)) && (decide (((a[k]!).round) = round))) (.int .i64 choice)), Sp.eq (vif ((decide (((a[k]!).kind) = kind)) && (decide (((a[k]!).round) = round))) (.bool (decide (((a[k]!).choice) = choice)))), Sp.eq (.bool (((decide (((a[k]!).kind) = kind)) && (decide (((a[k]!).round) = round))) && (decide (((a[k]!).choice) = choice)))), Sp.eq (.bool (((decide (((a[k]!).kind) = kind)) && (decide (((a[k]!).round) = round))) && (decide (((a[k]!).choice) = choice)))), Sp.eq (vif (((decide (((a[k]!).kind) = kind)) && (decide (((a[k]!).round) = round))) && (decide (((a[k]!).choice) = choice))) (.slice A_a a.length c_a)), Sp.eq (vif (((decide (((a[k]!).kind) = kind)) && (decide (((a[k]!).round) = round))) && (decide (((a[k]!).choice) = choice))) (.int .i64 ((k : Nat) : Int))), Sp.eq (vif (((decide (((a[k]!).kind) = kind)) && (decide (((a[k]!).round) = round))) && (decide (((a[k]!).choice) = choice))) (.pointer (some ((adr A_a).add (k * 22))))), Sp.eq (vif (((decide (((a[k]!).kind) = kind)) && (decide (((a[k]!).round) = round))) && (decide (((a[k]!).choice) = choice))) (.pointer (some (((adr A_a).add (k * 22)).add 14)))), Sp.eq (vif (((decide (((a[k]!).kind) = kind)) && (decide (((a[k]!).round) = round))) && (decide (((a[k]!).choice) = choice))) (Enc.val ((a[k]!).value))), Sp.eq (vif (((decide (((a[k]!).kind) = kind)) && (decide (((a[k]!).round) = round))) && (decide (((a[k]!).choice) = choice))) (Enc.val (value : Nm))), Sp.eq (vif (((decide (((a[k]!).kind) = kind)) && (decide (((a[k]!).round) = round))) && (decide (((a[k]!).choice) = choice))) (.bool (decide ((a[k]!).value = value)))), Sp.eq (.bool ((((decide (((a[k]!).kind) = kind)) && (decide (((a[k]!).round) = round))) && (decide (((a[k]!).choice) = choice))) && (decide ((a[k]!).value = value))))] mixed (by rfl) (Obls.cons ?_ (Obls.cons ?_ (Obls.cons ?_ (Obls.cons ?_ (Obls.cons ?_ (Obls.cons ?_ (Obls.cons ?_ (Obls.cons ?_ (Obls.cons ?_ (Obls.cons ?_ (Obls.cons ?_ (Obls.cons ?_ (Obls.cons ?_ (Obls.cons ?_ (Obls.cons ?_ (Obls.cons ?_ (Obls.cons ?_ (Obls.cons ?_ (Obls.cons ?_ (Obls.cons ?_ (Obls.cons ?_ (Obls.cons ?_ (Obls.cons ?_ (Obls.cons ?_ (Obls.cons ?_ (Obls.cons ?_ (Obls.cons ?_ (Obls.cons ?_ (Obls.cons ?_ (Obls.cons ?_ (Obls.cons ?_ (Obls.cons ?_ (Obls.cons ?_ (Obls.cons ?_ Obls.nil)))))))))))))))))))))))))))))))))) ?_
  ·intro f6 w6 hx6 ho6 hd6; have d6_s0 : f6 0 = (.slice A_a a.length c_a) := (ho6 0 rfl).trans s3_0; exact D.val rfl (op_move rfl d6_s0)
  ·intro f7 w7 hx7 ho7 hd7; have d7_s12 : f7 12 = (.int .i64 ((k : Nat) : Int)) := (ho7 12 rfl).trans s3_12; exact D.val rfl (op_move rfl d7_s12)
  ·intro f8 w8 hx8 ho8 hd8; have d8_0 : f8 19 = (.slice A_a a.length c_a) := hd8 0 rfl; have d8_1 : f8 20 = (.int .i64 ((k : Nat) : Int)) := hd8 1 rfl; have hR_a := hR_a.ext hx8; skip; exact D.val rfl (op_index (k := k) rfl d8_0 d8_1 sl25 (hR_a.getA (get_bang (l := a) (k := k) (by omega))).1 rfl (by omega) rfl)
  ·intro f9 w9 hx9 ho9 hd9; have d9_2 : f9 21 = (.pointer (some ((adr A_a).add (k * 22)))) := hd9 2 rfl; exact D.val rfl (op_field rfl d9_2 fo47_0 rfl)
  ·intro f10 w10 hx10 ho10 hd10; have d10_3 : f10 22 = (.pointer (some ((adr A_a).add (k * 22)))) := hd10 3 rfl; have hR_a := hR_a.ext hx10; skip; exact D.val rfl (op_load1 rfl d10_3 one3 ((hR_a.getA (get_bang (l := a) (k := k) (by omega))).2.one (n := 0) rfl))
  ·intro f11 w11 hx11 ho11 hd11; have d11_s1 : f11 1 = (.int .i64 kind) := (ho11 1 rfl).trans s3_1; exact D.val rfl (op_move rfl d11_s1)
  ·intro f12 w12 hx12 ho12 hd12; have d12_4 : f12 23 = (.int .i64 ((a[k]!).kind)) := hd12 4 rfl; have d12_5 : f12 24 = (.int .i64 kind) := hd12 5 rfl; exact D.val rfl (op_eql rfl d12_4 d12_5)
  ·intro f13 w13 hx13 ho13 hd13; have d13_6 : f13 25 = (.bool (decide (((a[k]!).kind) = kind))) := hd13 6 rfl; exact D.val rfl (op_move rfl d13_6)
  ·intro f14 w14 hx14 ho14 hd14; have d14_s0 : f14 0 = (.slice A_a a.length c_a) := (ho14 0 rfl).trans s3_0; have d14_7 : f14 26 = (.bool (decide (((a[k]!).kind) = kind))) := hd14 7 rfl; exact D.guardv (wanted_yes rfl rfl d14_7) (fun hg => (op_move rfl d14_s0))
  ·intro f15 w15 hx15 ho15 hd15; have d15_s12 : f15 12 = (.int .i64 ((k : Nat) : Int)) := (ho15 12 rfl).trans s3_12; have d15_7 : f15 26 = (.bool (decide (((a[k]!).kind) = kind))) := hd15 7 rfl; exact D.guardv (wanted_yes rfl rfl d15_7) (fun hg => (op_move rfl d15_s12))
  ·intro f16 w16 hx16 ho16 hd16; have d16_7 : f16 26 = (.bool (decide (((a[k]!).kind) = kind))) := hd16 7 rfl; have d16_8 : f16 27 = (vif (decide (((a[k]!).kind) = kind)) (.slice A_a a.length c_a)) := hd16 8 rfl; have d16_9 : f16 28 = (vif (decide (((a[k]!).kind) = kind)) (.int .i64 ((k : Nat) : Int))) := hd16 9 rfl; have hR_a := hR_a.ext hx16; exact D.guardv (wanted_yes rfl rfl d16_7) (fun hg => by have hp := hg; (try simp only [Bool.and_eq_true, Bool.or_eq_true, Bool.not_eq_true', decide_eq_true_eq, decide_eq_false_iff_not, bne_iff_ne, beq_iff_eq] at hp); skip; exact (op_index (k := k) rfl ((show _ = vif _ (.slice A_a a.length c_a) from d16_8).trans (vif_t hg).symm) ((show _ = vif _ (.int .i64 ((k : Nat) : Int)) from d16_9).trans (vif_t hg).symm) sl25 (hR_a.getA (get_bang (l := a) (k := k) (by omega))).1 rfl (by omega) rfl))
  ·intro f17 w17 hx17 ho17 hd17; have d17_7 : f17 26 = (.bool (decide (((a[k]!).kind) = kind))) := hd17 7 rfl; have d17_10 : f17 29 = (vif (decide (((a[k]!).kind) = kind)) (.pointer (some ((adr A_a).add (k * 22))))) := hd17 10 rfl; exact D.guardv (wanted_yes rfl rfl d17_7) (fun hg => (op_field rfl ((show _ = vif _ (.pointer (some ((adr A_a).add (k * 22)))) from d17_10).trans (vif_t hg).symm) fo47_2 rfl))
  ·intro f18 w18 hx18 ho18 hd18; have d18_7 : f18 26 = (.bool (decide (((a[k]!).kind) = kind))) := hd18 7 rfl; have d18_11 : f18 30 = (vif (decide (((a[k]!).kind) = kind)) (.pointer (some (((adr A_a).add (k * 22)).add 2)))) := hd18 11 rfl; have hR_a := hR_a.ext hx18; exact D.guardv (wanted_yes rfl rfl d18_7) (fun hg => by have hp := hg; (try simp only [Bool.and_eq_true, Bool.or_eq_true, Bool.not_eq_true', decide_eq_true_eq, decide_eq_false_iff_not, bne_iff_ne, beq_iff_eq] at hp); skip; exact (op_load1 rfl ((show _ = vif _ (.pointer (some (((adr A_a).add (k * 22)).add 2))) from d18_11).trans (vif_t hg).symm) one3 ((hR_a.getA (get_bang (l := a) (k := k) (by omega))).2.one (n := 2) rfl)))
  ·intro f19 w19 hx19 ho19 hd19; have d19_s2 : f19 2 = (.int .i64 round) := (ho19 2 rfl).trans s3_2; have d19_7 : f19 26 = (.bool (decide (((a[k]!).kind) = kind))) := hd19 7 rfl; exact D.guardv (wanted_yes rfl rfl d19_7) (fun hg => (op_move rfl d19_s2))
  ·intro f20 w20 hx20 ho20 hd20; have d20_7 : f20 26 = (.bool (decide (((a[k]!).kind) = kind))) := hd20 7 rfl; have d20_12 : f20 31 = (vif (decide (((a[k]!).kind) = kind)) (.int .i64 ((a[k]!).round))) := hd20 12 rfl; have d20_13 : f20 32 = (vif (decide (((a[k]!).kind) = kind)) (.int .i64 round)) := hd20 13 rfl; exact D.guardv (wanted_yes rfl rfl d20_7) (fun hg => (op_eql rfl ((show _ = vif _ (.int .i64 ((a[k]!).round)) from d20_12).trans (vif_t hg).symm) ((show _ = vif _ (.int .i64 round) from d20_13).trans (vif_t hg).symm)))
  ·intro f21 w21 hx21 ho21 hd21; have d21_7 : f21 26 = (.bool (decide (((a[k]!).kind) = kind))) := hd21 7 rfl; have d21_14 : f21 33 = (vif (decide (((a[k]!).kind) = kind)) (.bool (decide (((a[k]!).round) = round)))) := hd21 14 rfl; exact D.val rfl (op_and rfl d21_7 d21_14 rfl)
  ·intro f22 w22 hx22 ho22 hd22; have d22_15 : f22 34 = (.bool ((decide (((a[k]!).kind) = kind)) && (decide (((a[k]!).round) = round)))) := hd22 15 rfl; exact D.val rfl (op_move rfl d22_15)
  ·intro f23 w23 hx23 ho23 hd23; have d23_s0 : f23 0 = (.slice A_a a.length c_a) := (ho23 0 rfl).trans s3_0; have d23_16 : f23 35 = (.bool ((decide (((a[k]!).kind) = kind)) && (decide (((a[k]!).round) = round)))) := hd23 16 rfl; exact D.guardv (wanted_yes rfl rfl d23_16) (fun hg => (op_move rfl d23_s0))
  ·intro f24 w24 hx24 ho24 hd24; have d24_s12 : f24 12 = (.int .i64 ((k : Nat) : Int)) := (ho24 12 rfl).trans s3_12; have d24_16 : f24 35 = (.bool ((decide (((a[k]!).kind) = kind)) && (decide (((a[k]!).round) = round)))) := hd24 16 rfl; exact D.guardv (wanted_yes rfl rfl d24_16) (fun hg => (op_move rfl d24_s12))
  ·intro f25 w25 hx25 ho25 hd25; have d25_16 : f25 35 = (.bool ((decide (((a[k]!).kind) = kind)) && (decide (((a[k]!).round) = round)))) := hd25 16 rfl; have d25_17 : f25 36 = (vif ((decide (((a[k]!).kind) = kind)) && (decide (((a[k]!).round) = round))) (.slice A_a a.length c_a)) := hd25 17 rfl; have d25_18 : f25 37 = (vif ((decide (((a[k]!).kind) = kind)) && (decide (((a[k]!).round) = round))) (.int .i64 ((k : Nat) : Int))) := hd25 18 rfl; have hR_a := hR_a.ext hx25; exact D.guardv (wanted_yes rfl rfl d25_16) (fun hg => by have hp := hg; (try simp only [Bool.and_eq_true, Bool.or_eq_true, Bool.not_eq_true', decide_eq_true_eq, decide_eq_false_iff_not, bne_iff_ne, beq_iff_eq] at hp); skip; exact (op_index (k := k) rfl ((show _ = vif _ (.slice A_a a.length c_a) from d25_17).trans (vif_t hg).symm) ((show _ = vif _ (.int .i64 ((k : Nat) : Int)) from d25_18).trans (vif_t hg).symm) sl25 (hR_a.getA (get_bang (l := a) (k := k) (by omega))).1 rfl (by omega) rfl))
  ·intro f26 w26 hx26 ho26 hd26; have d26_16 : f26 35 = (.bool ((decide (((a[k]!).kind) = kind)) && (decide (((a[k]!).round) = round)))) := hd26 16 rfl; have d26_19 : f26 38 = (vif ((decide (((a[k]!).kind) = kind)) && (decide (((a[k]!).round) = round))) (.pointer (some ((adr A_a).add (k * 22))))) := hd26 19 rfl; exact D.guardv (wanted_yes rfl rfl d26_16) (fun hg => (op_field rfl ((show _ = vif _ (.pointer (some ((adr A_a).add (k * 22)))) from d26_19).trans (vif_t hg).symm) fo47_3 rfl))
  ·intro f27 w27 hx27 ho27 hd27; have d27_16 : f27 35 = (.bool ((decide (((a[k]!).kind) = kind)) && (decide (((a[k]!).round) = round)))) := hd27 16 rfl; have d27_20 : f27 39 = (vif ((decide (((a[k]!).kind) = kind)) && (decide (((a[k]!).round) = round))) (.pointer (some (((adr A_a).add (k * 22)).add 3)))) := hd27 20 rfl; have hR_a := hR_a.ext hx27; exact D.guardv (wanted_yes rfl rfl d27_16) (fun hg => by have hp := hg; (try simp only [Bool.and_eq_true, Bool.or_eq_true, Bool.not_eq_true', decide_eq_true_eq, decide_eq_false_iff_not, bne_iff_ne, beq_iff_eq] at hp); skip; exact (op_load1 rfl ((show _ = vif _ (.pointer (some (((adr A_a).add (k * 22)).add 3))) from d27_20).trans (vif_t hg).symm) one3 ((hR_a.getA (get_bang (l := a) (k := k) (by omega))).2.one (n := 3) rfl)))
  ·intro f28 w28 hx28 ho28 hd28; have d28_s3 : f28 3 = (.int .i64 choice) := (ho28 3 rfl).trans s3_3; have d28_16 : f28 35 = (.bool ((decide (((a[k]!).kind) = kind)) && (decide (((a[k]!).round) = round)))) := hd28 16 rfl; exact D.guardv (wanted_yes rfl rfl d28_16) (fun hg => (op_move rfl d28_s3))
  ·intro f29 w29 hx29 ho29 hd29; have d29_16 : f29 35 = (.bool ((decide (((a[k]!).kind) = kind)) && (decide (((a[k]!).round) = round)))) := hd29 16 rfl; have d29_21 : f29 40 = (vif ((decide (((a[k]!).kind) = kind)) && (decide (((a[k]!).round) = round))) (.int .i64 ((a[k]!).choice))) := hd29 21 rfl; have d29_22 : f29 41 = (vif ((decide (((a[k]!).kind) = kind)) && (decide (((a[k]!).round) = round))) (.int .i64 choice)) := hd29 22 rfl; exact D.guardv (wanted_yes rfl rfl d29_16) (fun hg => (op_eql rfl ((show _ = vif _ (.int .i64 ((a[k]!).choice)) from d29_21).trans (vif_t hg).symm) ((show _ = vif _ (.int .i64 choice) from d29_22).trans (vif_t hg).symm)))
  ·intro f30 w30 hx30 ho30 hd30; have d30_16 : f30 35 = (.bool ((decide (((a[k]!).kind) = kind)) && (decide (((a[k]!).round) = round)))) := hd30 16 rfl; have d30_23 : f30 42 = (vif ((decide (((a[k]!).kind) = kind)) && (decide (((a[k]!).round) = round))) (.bool (decide (((a[k]!).choice) = choice)))) := hd30 23 rfl; exact D.val rfl (op_and rfl d30_16 d30_23 rfl)
  ·intro f31 w31 hx31 ho31 hd31; have d31_24 : f31 43 = (.bool (((decide (((a[k]!).kind) = kind)) && (decide (((a[k]!).round) = round))) && (decide (((a[k]!).choice) = choice)))) := hd31 24 rfl; exact D.val rfl (op_move rfl d31_24)
  ·intro f32 w32 hx32 ho32 hd32; have d32_s0 : f32 0 = (.slice A_a a.length c_a) := (ho32 0 rfl).trans s3_0; have d32_25 : f32 44 = (.bool (((decide (((a[k]!).kind) = kind)) && (decide (((a[k]!).round) = round))) && (decide (((a[k]!).choice) = choice)))) := hd32 25 rfl; exact D.guardv (wanted_yes rfl rfl d32_25) (fun hg => (op_move rfl d32_s0))
  ·intro f33 w33 hx33 ho33 hd33; have d33_s12 : f33 12 = (.int .i64 ((k : Nat) : Int)) := (ho33 12 rfl).trans s3_12; have d33_25 : f33 44 = (.bool (((decide (((a[k]!).kind) = kind)) && (decide (((a[k]!).round) = round))) && (decide (((a[k]!).choice) = choice)))) := hd33 25 rfl; exact D.guardv (wanted_yes rfl rfl d33_25) (fun hg => (op_move rfl d33_s12))
  ·intro f34 w34 hx34 ho34 hd34; have d34_25 : f34 44 = (.bool (((decide (((a[k]!).kind) = kind)) && (decide (((a[k]!).round) = round))) && (decide (((a[k]!).choice) = choice)))) := hd34 25 rfl; have d34_26 : f34 45 = (vif (((decide (((a[k]!).kind) = kind)) && (decide (((a[k]!).round) = round))) && (decide (((a[k]!).choice) = choice))) (.slice A_a a.length c_a)) := hd34 26 rfl; have d34_27 : f34 46 = (vif (((decide (((a[k]!).kind) = kind)) && (decide (((a[k]!).round) = round))) && (decide (((a[k]!).choice) = choice))) (.int .i64 ((k : Nat) : Int))) := hd34 27 rfl; have hR_a := hR_a.ext hx34; exact D.guardv (wanted_yes rfl rfl d34_25) (fun hg => by have hp := hg; (try simp only [Bool.and_eq_true, Bool.or_eq_true, Bool.not_eq_true', decide_eq_true_eq, decide_eq_false_iff_not, bne_iff_ne, beq_iff_eq] at hp); skip; exact (op_index (k := k) rfl ((show _ = vif _ (.slice A_a a.length c_a) from d34_26).trans (vif_t hg).symm) ((show _ = vif _ (.int .i64 ((k : Nat) : Int)) from d34_27).trans (vif_t hg).symm) sl25 (hR_a.getA (get_bang (l := a) (k := k) (by omega))).1 rfl (by omega) rfl))
  ·intro f35 w35 hx35 ho35 hd35; have d35_25 : f35 44 = (.bool (((decide (((a[k]!).kind) = kind)) && (decide (((a[k]!).round) = round))) && (decide (((a[k]!).choice) = choice)))) := hd35 25 rfl; have d35_28 : f35 47 = (vif (((decide (((a[k]!).kind) = kind)) && (decide (((a[k]!).round) = round))) && (decide (((a[k]!).choice) = choice))) (.pointer (some ((adr A_a).add (k * 22))))) := hd35 28 rfl; exact D.guardv (wanted_yes rfl rfl d35_25) (fun hg => (op_field rfl ((show _ = vif _ (.pointer (some ((adr A_a).add (k * 22)))) from d35_28).trans (vif_t hg).symm) fo47_7 rfl))
  ·intro f36 w36 hx36 ho36 hd36; have d36_25 : f36 44 = (.bool (((decide (((a[k]!).kind) = kind)) && (decide (((a[k]!).round) = round))) && (decide (((a[k]!).choice) = choice)))) := hd36 25 rfl; have d36_29 : f36 48 = (vif (((decide (((a[k]!).kind) = kind)) && (decide (((a[k]!).round) = round))) && (decide (((a[k]!).choice) = choice))) (.pointer (some (((adr A_a).add (k * 22)).add 14)))) := hd36 29 rfl; have hR_a := hR_a.ext hx36; exact D.guardv (wanted_yes rfl rfl d36_25) (fun hg => by have hp := hg; (try simp only [Bool.and_eq_true, Bool.or_eq_true, Bool.not_eq_true', decide_eq_true_eq, decide_eq_false_iff_not, bne_iff_ne, beq_iff_eq] at hp); skip; exact (op_load (v := ((a[k]!).value : Nm)) rfl ((show _ = vif _ (.pointer (some (((adr A_a).add (k * 22)).add 14))) from d36_29).trans (vif_t hg).symm) ty24 (sub_nm 14 (hR_a.getA (get_bang (l := a) (k := k) (by omega))).2 rfl)))
  ·intro f37 w37 hx37 ho37 hd37; have d37_s9 : f37 9 = (.pointer (some ⟨b1, 0, none⟩)) := (ho37 9 rfl).trans s3_9; have d37_25 : f37 44 = (.bool (((decide (((a[k]!).kind) = kind)) && (decide (((a[k]!).round) = round))) && (decide (((a[k]!).choice) = choice)))) := hd37 25 rfl; have hB1 := hB1.ext hx37; exact D.guardv (wanted_yes rfl rfl d37_25) (fun hg => (op_load (v := (value : Nm)) rfl d37_s9 ty24 hB1.cells))
  ·intro f38 w38 hx38 ho38 hd38; have d38_25 : f38 44 = (.bool (((decide (((a[k]!).kind) = kind)) && (decide (((a[k]!).round) = round))) && (decide (((a[k]!).choice) = choice)))) := hd38 25 rfl; have d38_30 : f38 49 = (vif (((decide (((a[k]!).kind) = kind)) && (decide (((a[k]!).round) = round))) && (decide (((a[k]!).choice) = choice))) (Enc.val ((a[k]!).value))) := hd38 30 rfl; have d38_31 : f38 50 = (vif (((decide (((a[k]!).kind) = kind)) && (decide (((a[k]!).round) = round))) && (decide (((a[k]!).choice) = choice))) (Enc.val (value : Nm))) := hd38 31 rfl; exact D.guardv (wanted_yes rfl rfl d38_25) (fun hg => (op_eqle (a := ((a[k]!).value : Nm)) (b := (value : Nm)) rfl ((show _ = vif _ (Enc.val ((a[k]!).value)) from d38_30).trans (vif_t hg).symm) ((show _ = vif _ (Enc.val (value : Nm)) from d38_31).trans (vif_t hg).symm) eq24 (fun _ => ⟨_, rfl⟩) Tryz.eqGuardType24))
  ·intro f39 w39 hx39 ho39 hd39; have d39_25 : f39 44 = (.bool (((decide (((a[k]!).kind) = kind)) && (decide (((a[k]!).round) = round))) && (decide (((a[k]!).choice) = choice)))) := hd39 25 rfl; have d39_32 : f39 51 = (vif (((decide (((a[k]!).kind) = kind)) && (decide (((a[k]!).round) = round))) && (decide (((a[k]!).choice) = choice))) (.bool (decide ((a[k]!).value = value)))) := hd39 32 rfl; exact D.val rfl (op_and rfl d39_25 d39_32 rfl)
  intro f40 w40 hx40 ho40 hr40; have s0 : f40 0 = (.slice A_a a.length c_a) := (ho40 0 rfl).trans s3_0; have s1 : f40 1 = (.int .i64 kind) := (ho40 1 rfl).trans s3_1; have s2 : f40 2 = (.int .i64 round) := (ho40 2 rfl).trans s3_2; have s3 : f40 3 = (.int .i64 choice) := (ho40 3 rfl).trans s3_3; have s9 : f40 9 = (.pointer (some ⟨b1, 0, none⟩)) := (ho40 9 rfl).trans s3_9; have s10 : f40 10 = (.int .i64 0) := (ho40 10 rfl).trans s3_10; have s11 : f40 11 = (.int .i64 t) := (ho40 11 rfl).trans s3_11; have s12 : f40 12 = (.int .i64 ((k : Nat) : Int)) := (ho40 12 rfl).trans s3_12; have s52 : f40 52 = (.bool ((((decide (((a[k]!).kind) = kind)) && (decide (((a[k]!).round) = round))) && (decide (((a[k]!).choice) = choice))) && (decide ((a[k]!).value = value)))) := hr40 33 (by decide); have hE := hE.trans hx40; have hS2 := hS2.trans hx40; have hR_a := hR_a.ext hx40; refine thenF_nor ?_; refine W.cond (t := (((decide (((a[k]!).kind) = kind)) && (decide (((a[k]!).round) = round))) && (decide (((a[k]!).choice) = choice))) && (decide ((a[k]!).value = value))) s52 (fun hc41 => ?_) (fun hc41 => ?_)
  ·have hp41 := hc41; simp only [Bool.and_eq_true, Bool.or_eq_true, Bool.and_eq_false_iff, Bool.or_eq_false_iff, Bool.not_eq_true', Bool.not_eq_false', decide_eq_true_eq, decide_eq_false_iff_not] at hp41; have hwp : whoP kind round choice value a[k]! = true := hc41; have hstep := who_yes (t := t) hwp; refine W.region (by rfl) ?_; refine L.val rfl (op_move rfl s11) ?_; refine L.val rfl (op_move rfl s0) ?_; refine L.val rfl (op_move rfl s12) ?_; refine L.val rfl (op_index (k := k) rfl rfl rfl sl25 (hR_a.getA (get_bang (l := a) (k := k) (by omega))).1 rfl (by omega) rfl) ?_; refine L.val rfl (op_field rfl rfl fo47_4 rfl) ?_; refine L.val rfl (op_load1 rfl rfl one3 ((hR_a.getA (get_bang (l := a) (k := k) (by omega))).2.one (n := 4) rfl)) ?_; refine L.call (v := (.int .i64 (rBit_f ((a[k]!).signer)))) rfl (OpS.call (op_call rfl (argsC rfl argsN) Tryz.func97 rfl rfl) rBit_ok) ?_; intro w42 hx42; have hE := hE.trans hx42; have hS2 := hS2.trans hx42; refine L.val rfl (op_ior rfl rfl rfl) ?_; refine L.val rfl (op_assign rfl rfl) ?_; refine L.nil ?_; refine blockF_nor ?_; refine thenF_nor ?_; refine W.region (by rfl) ?_; refine L.val rfl (op_move rfl s12) ?_; refine L.val rfl (op_add (c := ((k + 1 : Nat) : Int)) rfl rfl rfl (by omega) (by omega)) ?_; refine L.val rfl (op_assign rfl rfl) ?_; refine L.nil ?_; refine thenF_nor ?_; exact ⟨(k + 1, ior t (rBit_f ((a[k]!).signer))), ⟨(by (try dsimp only); omega), (by dsimp only; rw [fold_go (by omega), hst]; exact hstep), s0, s1, s2, s3, s9, s10, rfl, rfl, hS2⟩, (by (try dsimp only); omega)⟩
  ·have hp41 := hc41; simp only [Bool.and_eq_true, Bool.or_eq_true, Bool.and_eq_false_iff, Bool.or_eq_false_iff, Bool.not_eq_true', Bool.not_eq_false', decide_eq_true_eq, decide_eq_false_iff_not] at hp41; have hwp : whoP kind round choice value a[k]! = false := hc41; have hstep := who_no (t := t) hwp; refine W.skip ?_; refine blockF_nor ?_; refine thenF_nor ?_; refine W.region (by rfl) ?_; refine L.val rfl (op_move rfl s12) ?_; refine L.val rfl (op_add (c := ((k + 1 : Nat) : Int)) rfl rfl rfl (by omega) (by omega)) ?_; refine L.val rfl (op_assign rfl rfl) ?_; refine L.nil ?_; refine thenF_nor ?_; exact ⟨(k + 1, t), ⟨(by (try dsimp only); omega), (by dsimp only; rw [fold_go (by omega), hst]; exact hstep), s0, s1, s2, s3, s9, s10, rfl, s11, hS2⟩, (by (try dsimp only); omega)⟩
 ·have hp4 := hc4; simp only [Bool.and_eq_true, Bool.or_eq_true, Bool.and_eq_false_iff, Bool.or_eq_false_iff, Bool.not_eq_true', Bool.not_eq_false', decide_eq_true_eq, decide_eq_false_iff_not] at hp4; have hkl : k = a.length := by omega
  rw [hkl, List.take_length] at hst; refine W.exit ?_; refine thenF_exit ?_; refine thenF_exit ?_; refine blockF_hit ?_; refine thenF_nor ?_; refine W.seq ?_; refine W.region (by rfl) ?_; refine L.val rfl (op_move rfl s3_11) ?_; refine L.val rfl (op_assign rfl rfl) ?_; refine L.nil ?_; refine thenF_nor ?_; refine W.ret ?_; exact end_ret1 (v := (.int .i64 t)) rfl rfl ⟨(by unfold rWho_f; rw [hst]), hE⟩
end Go.Proofs.YtdknjfmjddlphaaGreat
set_option linter.unusedSimpArgs false
set_option linter.unusedVariables false
namespace Go.Proofs.YtdknjfmjddlphaaGreat
open Go Go.Fk
def slots_f (m : Int) (parent : Nm) (l : List Vt) (slot : Int) : List Vt := accepted_f m parent (l.filter fun x => decide (x.slot = slot))
def sgStep (kind : Int) (l : List (Nm × Int)) (v : Vt) : List (Nm × Int) := bif decide (v.kind = kind) then mput l v.value (ior (mget l v.value) (ishl 1 v.signer)) else l
def sgOf (kind : Int) (A : List Vt) : List (Nm × Int) := A.foldl (sgStep kind) []
def signers_f (m : Int) (parent : Nm) (l : List Vt) (slot kind : Int) : List (Nm × Int) := sgOf kind (slots_f m parent l slot)
def ascOut (n : Int) (p : Nm × Int) : Bool := (!decide (p.1 = Nm.zero)) && decide (n ≤ size_f p.2)
def ascending15_f (b : List (Nm × Int)) (n : Int) : List Nm := sorted hashLess_f ((b.filter (ascOut n)).map Prod.fst)
def proposals_f (m : Int) (parent : Nm) (l : List Vt) (slot : Int) : List Nm := ascending15_f (signers_f m parent l slot 1) 1
def certified_f (m : Int) (parent : Nm) (l : List Vt) (slot : Int) : List Nm := ascending15_f (signers_f m parent l slot 2) (quorum_f (size_f m))
def echoers_f (m : Int) (parent : Nm) (l : List Vt) (slot : Int) (value : Nm) : Int := mget (signers_f m parent l slot 2) value
theorem nm_lin : Lin hashLess_f := Lin.of_key (fun n => [num n]) 1 (fun _ => rfl) (fun x y h => by
  simp only [List.cons.injEq, and_true] at h
  exact num_inj h) (fun a b => by
  rw [hashLess_eq]
  simp only [lexl]
  by_cases h : num a = num b
  · simp [h]
  · simp [h])
theorem perm_sorted {α : Type} [DecidableEq α] [Inhabited α] {lt : α → α → Bool} (hl : Lin lt) {l M : List α} (hp : l.Perm M) (hM : M.Nodup) (ho : ∀ i j, i < j → j < l.length → lt l[j]! l[i]! = false) : l = sorted lt M := by
 have hn : l.Nodup := hp.nodup_iff.2 hM; refine Asc.unique hl ?_ (sorted_asc hl M) fun z => by rw [sorted_mem]; exact hp.mem_iff
 unfold Asc; rw [List.pairwise_iff_getElem]; intro i j hi hj hij; have h1 := ho i j hij hj; rw [getElem!_pos l i hi, getElem!_pos l j hj] at h1; cases h2 : lt l[i] l[j] with
 | true => rfl
 | false =>
  have := hl.total _ _ h2 h1
  have := (List.getElem_inj hn).1 this
  omega
theorem asc15_eq {b done : List (Nm × Int)} {n : Int} {ls : List Nm} (hb : (b.map Prod.fst).Nodup) (hd : done.Perm b) (hl : ls.Perm ((done.filter (ascOut n)).map Prod.fst)) (ho : ∀ i j, i < j → j < ls.length → hashLess_f ls[j]! ls[i]! = false) : ls = ascending15_f b n :=
  perm_sorted nm_lin (hl.trans ((hd.filter _).map _)) ((List.Sublist.map _ List.filter_sublist).nodup hb) ho
theorem sg_yes {kind : Int} {A : List Vt} {k : Nat} (hk : k < A.length) (h : decide (A[k]!.kind = kind) = true) :
    mput (sgOf kind (A.take k)) A[k]!.value (ior (mget (sgOf kind (A.take k)) A[k]!.value) (ishl 1 A[k]!.signer)) = sgOf kind (A.take (k + 1)) := by
  unfold sgOf
  rw [fold_go hk]
  conv => rhs; unfold sgStep
  rw [h]; rfl
theorem sg_no {kind : Int} {A : List Vt} {k : Nat} (hk : k < A.length) (h : decide (A[k]!.kind = kind) = false) : sgOf kind (A.take k) = sgOf kind (A.take (k + 1)) := by
 unfold sgOf; rw [fold_go hk]; conv => rhs; unfold sgStep
 rw [h]; rfl
theorem sgStep_len (kind : Int) (l : List (Nm × Int)) (v : Vt) : (sgStep kind l v).length ≤ l.length + 1 := by
 unfold sgStep; cases decide (v.kind = kind)
 ·simp
 ·exact mput_len
theorem sg_len (kind : Int) : ∀ (A : List Vt) (l : List (Nm × Int)), (A.foldl (sgStep kind) l).length ≤ l.length + A.length
  | [], l => by simp
  | v :: t, l => by
    have h1 := sgStep_len kind l v
    have h2 := sg_len kind t (sgStep kind l v)
    rw [List.foldl_cons, List.length_cons]; omega
theorem signers_len (m : Int) (parent : Nm) (l : List Vt) (slot kind : Int) : (signers_f m parent l slot kind).length ≤ l.length := by
 have h1 := sg_len kind (slots_f m parent l slot) []; have h2 := acc_len m parent (l.filter fun x => decide (x.slot = slot)); have h3 := List.length_filter_le (fun x : Vt => decide (x.slot = slot)) l; unfold signers_f sgOf; unfold slots_f at h1 ⊢; simp only [List.length_nil, Nat.zero_add] at h1; omega
theorem sg_keys (kind : Int) : ∀ (A : List Vt) (l : List (Nm × Int)), (l.map Prod.fst).Nodup → ((A.foldl (sgStep kind) l).map Prod.fst).Nodup
  | [], l, h => h
  | v :: t, l, h => by
    rw [List.foldl_cons]
    refine sg_keys kind t _ ?_
    unfold sgStep
    cases decide (v.kind = kind)
    · exact h
    · exact mput_nodup h
theorem slots_sig (m : Int) (parent : Nm) (l : List Vt) (slot : Int) (k : Nat) (h : k < (slots_f m parent l slot).length) : 0 ≤ (slots_f m parent l slot)[k]!.signer ∧ (slots_f m parent l slot)[k]!.signer ≤ 9 := (acc_sig m parent _ k h).2
theorem slots_len (m : Int) (parent : Nm) (l : List Vt) (slot : Int) : (slots_f m parent l slot).length ≤ l.length := by
 have h2 := acc_len m parent (l.filter fun x => decide (x.slot = slot)); have h3 := List.length_filter_le (fun x : Vt => decide (x.slot = slot)) l; unfold slots_f; omega
end Go.Proofs.YtdknjfmjddlphaaGreat
set_option linter.unusedSimpArgs false
set_option linter.unusedVariables false
namespace Go.Proofs.YtdknjfmjddlphaaGreat
open Go Go.Fk
def Low (x : Int) : Prop := 0 ≤ x ∧ x < 1024
theorem bv_low {x : Int} (h : Low x) : (bv x).toNat = x.toNat ∧ (bv x).toNat < 2 ^ 10 := by
 unfold bv; rw [BitVec.toNat_ofInt]; obtain ⟨h0, h1⟩ := h; have e : x % ((2 ^ 64 : Nat) : Int) = x := Int.emod_eq_of_lt h0 (by omega); rw [e]; exact ⟨rfl, by omega⟩
theorem wrap_low {n : Nat} (h : n < 1024) : IntKind.i64.wrap (n : Int) = n := wrap_in ⟨by omega, by omega⟩
theorem low_ior {a b : Int} (ha : Low a) (hb : Low b) : Low (ior a b) := by
 have h : (bv a ||| bv b).toNat < 2 ^ 10 := by
  rw [BitVec.toNat_or]
  exact Nat.or_lt_two_pow (bv_low ha).2 (bv_low hb).2
 have e : ior a b = ((bv a ||| bv b).toNat : Int) := wrap_low h; rw [e]; exact ⟨by omega, by omega⟩
theorem low_ishl_table : ∀ s : Fin 10, 0 ≤ ishl 1 ((s.val : Nat) : Int) ∧ ishl 1 ((s.val : Nat) : Int) < 1024 := by decide +kernel
theorem low_ishl {s : Int} (h0 : 0 ≤ s) (h1 : s ≤ 9) : Low (ishl 1 s) := by
 have := low_ishl_table ⟨s.toNat, by omega⟩; simp only [Int.toNat_of_nonneg h0] at this; exact this
theorem low_zero : Low 0 := ⟨by omega, by omega⟩
theorem low_bit {x : Int} (h : Low x) {i : Nat} (hi : 10 ≤ i) : (bv x).getLsbD i = false := by
 unfold BitVec.getLsbD; exact Nat.testBit_lt_two_pow (Nat.lt_of_lt_of_le (bv_low h).2 (Nat.pow_le_pow_right (by decide) hi))
/-- two sets in the low bits with one membership are one -/
theorem low_ext {a b : Int} (ha : Low a) (hb : Low b) (h : ∀ i, has_f a i = has_f b i) : a = b := by
 have e : bv a = bv b := by
  apply BitVec.eq_of_getLsbD_eq
  intro i hi
  by_cases h10 : i < 10
  · have := h (i : Int)
    rw [has_bv, has_bv] at this
    simp only [Int.toNat_natCast] at this
    have h0 : decide ((0 : Int) ≤ (i : Int)) = true := decide_eq_true (by omega)
    have h1 : decide ((i : Int) < 10) = true := decide_eq_true (by omega)
    rw [h0, h1] at this
    simpa using this
  · rw [low_bit ha (by omega), low_bit hb (by omega)]
 have h1 := (bv_low ha).1; have h2 := (bv_low hb).1; rw [e] at h1; obtain ⟨a0, _⟩ := ha; obtain ⟨b0, _⟩ := hb; omega
theorem low_mget {K : Type} [DecidableEq K] {l : List (K × Int)} (h : ∀ p ∈ l, Low p.2) (x : K) : Low (mget l x) := by
 unfold mget; cases hf : l.find? (fun p => decide (p.1 = x)) with
 | none => exact low_zero; | some p => exact h p (List.mem_of_find?_eq_some hf)
theorem low_mput {K : Type} [DecidableEq K] {l : List (K × Int)} (h : ∀ p ∈ l, Low p.2) {x : K} {v : Int} (hv : Low v) : ∀ p ∈ mput l x v, Low p.2 := fun p hp => by
  rcases mput_mem.1 hp with rfl | ⟨_, hp⟩
  · exact hv
  · exact h p hp
theorem low_sg (kind : Int) : ∀ (A : List Vt) (l : List (Nm × Int)), (∀ w ∈ A, 0 ≤ w.signer ∧ w.signer ≤ 9) → (∀ p ∈ l, Low p.2) → ∀ p ∈ A.foldl (sgStep kind) l, Low p.2
  | [], l, _, h => h
  | v :: t, l, hA, h => by
    rw [List.foldl_cons]
    refine low_sg kind t _ (fun w hw => hA w (by simp [hw])) ?_
    unfold sgStep
    cases decide (v.kind = kind)
    · exact h
    · have hb := hA v (by simp)
      exact low_mput h (low_ior (low_mget h _) (low_ishl hb.1 hb.2))
theorem slots_sigs {m : Int} {parent : Nm} {l : List Vt} {slot : Int} : ∀ w ∈ slots_f m parent l slot, 0 ≤ w.signer ∧ w.signer ≤ 9 := fun w hw => (acc_signers hw).2
theorem echoers_small (m : Int) (parent : Nm) (l : List Vt) (slot : Int) (x : Nm) : Low (echoers_f m parent l slot x) := low_mget (low_sg 2 _ _ slots_sigs (by simp)) x
end Go.Proofs.YtdknjfmjddlphaaGreat
set_option linter.unusedSimpArgs false
set_option linter.unusedVariables false
namespace Go.Proofs.YtdknjfmjddlphaaGreat
open Go Go.Fk
section
variable {m s : Int} {S C a b : List Vt} {v x y : Vt}
def P2 (v x : Vt) : Bool := prevote2_f x v
def P3 (v x : Vt) : Bool := prevote3_f x v
def P4 (v x : Vt) : Bool := prevote4_f x (fun xx => prevote2_f xx v) (fun xx => prevote3_f xx v)
def P5 (v x : Vt) : Bool := prevote5_f x v (fun xx => prevote2_f xx v)
def P6 (v x : Vt) : Bool := prevote6_f x v
def firstAlt (m : Int) (v : Vt) (l : List Vt) : Bool := supported_f m (quorum_f (size_f m)) v l (P4 v) && l.any (P5 v)
def secondAlt (m : Int) (v : Vt) (l : List Vt) : Bool := supported_f m (quorum_f (size_f m)) v l (P3 v) && l.any (P6 v)
theorem prevote_alts (hr : ¬ v.round = 1) (l : List Vt) : prevote_f m (quorum_f (size_f m)) l v = bif firstAlt m v l then true else secondAlt m v l := by
 unfold prevote_f; simp only [hr, decide_false, cond_false]; rfl
theorem P2_iff' : P2 v x = true ↔ x.kind = 4 ∧ x.round = v.round - 1 ∧ same_f v x = true := by
 unfold P2 prevote2_f; rw [Bool.and_eq_true, Bool.and_eq_true, decide_eq_true_eq, decide_eq_true_eq, and_assoc]
theorem P6_iff' : P6 v x = true ↔ x.kind = 3 ∧ x.round = v.round - 1 ∧ same_f v x = true := by
 unfold P6 prevote6_f; rw [Bool.and_eq_true, Bool.and_eq_true, decide_eq_true_eq, decide_eq_true_eq, and_assoc]
theorem P3_iff : P3 v x = true ↔ x.kind = 4 ∧ x.round = v.round - 1 ∧ x.choice = 2 := by
 unfold P3 prevote3_f; simp only [Bool.and_eq_true, decide_eq_true_eq, and_assoc]
theorem P4_iff : P4 v x = true ↔ P2 v x = true ∨ P3 v x = true := by
 unfold P4 prevote4_f P2 P3; rw [Bool.or_eq_true]
theorem P5_iff : P5 v x = true ↔ has_f v.support x.signer = true ∧ P2 v x = true := by
 unfold P5 prevote5_f P2; rw [Bool.and_eq_true]
end
end Go.Proofs.YtdknjfmjddlphaaGreat
set_option linter.unusedSimpArgs false
set_option linter.unusedVariables false
namespace Go.Proofs.YtdknjfmjddlphaaGreat
open Go Go.Fk
section
variable {m : Int} {v : Vt} {a : List Vt} {s kind round : Int}
theorem counts_same (hs : has_f m v.slot = true) {x : Vt} (hk : x.kind ≤ 4) : rCounts_f m v x = counts_f m v x := by
 rw [rCounts_eq]; unfold counts_f; rw [Bool.eq_iff_iff]; simp only [Bool.and_eq_true, decide_eq_true_eq]; constructor
 ·rintro ⟨⟨⟨⟨h1, h2⟩, h3⟩, h4⟩, h5⟩; exact ⟨⟨⟨⟨h5, h1⟩, h2⟩, hk⟩, h3⟩
 ·rintro ⟨⟨⟨⟨h5, h1⟩, h2⟩, _⟩, h3⟩; exact ⟨⟨⟨⟨h1, h2⟩, h3⟩, by rw [h2]; exact hs⟩, h5⟩
theorem saidF_iff (hs : has_f m v.slot = true) (hk : kind ≤ 4) : (a.any fun x => sdF_f m v x s kind round) = true ↔ ∃ x ∈ a.filter (counts_f m v), x.signer = s ∧ x.kind = kind ∧ x.round = round ∧ same_f v x = true := by
 rw [List.any_eq_true]; unfold sdF_f; constructor
 ·rintro ⟨x, hx, h⟩; simp only [Bool.and_eq_true, decide_eq_true_eq] at h; obtain ⟨⟨⟨⟨h1, h2⟩, h3⟩, h4⟩, h5⟩ := h; rw [counts_same hs (by omega)] at h5; exact ⟨x, List.mem_filter.2 ⟨hx, h5⟩, h1, h2, h3, h4⟩
 ·rintro ⟨x, hx, h1, h2, h3, h4⟩; rw [List.mem_filter] at hx; refine ⟨x, hx.1, ?_⟩; simp only [Bool.and_eq_true, decide_eq_true_eq]; exact ⟨⟨⟨⟨h1, h2⟩, h3⟩, h4⟩, by rw [counts_same hs (by omega)]; exact hx.2⟩
/-- a set that lies in the low ten bits, told by its operation -/
theorem iandn_low {e m : Int} (h : ∀ i, has_f e i = true → has_f m i = true) (he : iandn e 1023 = 0) : iandn e m = 0 := by
 have hz0 : bv e &&& ~~~(bv 1023) = 0 := by
  have h1 : bv (iandn e 1023) = bv e &&& ~~~(bv 1023) := bv_wrap _
  rw [he] at h1
  rw [← h1]; rfl
 have hz : bv e &&& ~~~(bv m) = 0 := by
  apply BitVec.eq_of_getLsbD_eq
  intro i hi
  rw [BitVec.getLsbD_and, BitVec.getLsbD_not]
  by_cases h10 : i < 10
  · cases hb : (bv e).getLsbD i with
    | false => simp
    | true =>
      have h1 : has_f e (i : Int) = true := by rw [has_bv]; simp [hb]; omega
      have h2 := h _ h1
      rw [has_bv] at h2
      simp only [Bool.and_eq_true] at h2
      have h3 := h2.2
      simp only [Int.toNat_natCast] at h3
      rw [h3]; simp
  · have h1 : (bv e &&& ~~~(bv 1023)).getLsbD i = false := by rw [hz0]; simp
    rw [BitVec.getLsbD_and, BitVec.getLsbD_not, low_bit (show Low 1023 from ⟨by omega, by omega⟩) (by omega)] at h1
    have h2 : (bv e).getLsbD i = false := by
      cases hb : (bv e).getLsbD i with
      | false => rfl
      | true => rw [hb] at h1; simp only [hi, decide_true, Bool.not_false, Bool.and_true, Bool.and_self] at h1; cases h1
    rw [h2]; simp
 show IntKind.i64.wrap (((bv e &&& ~~~(bv m)).toNat : Nat) : Int) = 0; rw [hz]; rfl
theorem valid_support {v : Vt} (h : valid_f v = true) : iandn v.support 1023 = 0 := by
 unfold valid_f at h; cases h1 : (!(between_f v.kind 1 7)) || (!(between_f v.signer 0 9)) with
 | true => rw [h1] at h; simp at h
 | false =>
  rw [h1] at h
  simp only [cond_false] at h
  cases h2 : ((decide (v.choice = 1)) == (decide (v.value = Nm.zero))) || (!decide ((iandn v.support 1023) = 0)) with
  | true => rw [h2] at h; simp at h
  | false =>
    simp only [Bool.or_eq_false_iff, Bool.not_eq_false', decide_eq_true_eq] at h2
    exact h2.2
theorem exact_eq {m : Int} {v : Vt} (h : valid_f v = true) : rExact_f m v.support = ((decide (iandn v.support m = 0)) && (decide (size_f v.support = quorum_f (size_f m)))) := by
 unfold rExact_f; rw [← size_ids, rQuorum_eq]
 have e : (ids_f v.support).all (fun i => rHas_f m i) = decide (iandn v.support m = 0) := by
  rw [Bool.eq_iff_iff, List.all_eq_true, decide_eq_true_eq]
  constructor
  · exact fun hh => iandn_low (fun i hi => hh i (mem_ids.2 hi)) (valid_support h)
  · exact fun hh i hi => sub_of_iandn hh (mem_ids.1 hi)
 rw [e]; cases decide (iandn v.support m = 0) <;> rfl
theorem all_ids {p q : Int → Bool} {l : List Int} (h : ∀ i ∈ l, p i = q i) : l.all p = l.all q := by
 rw [Bool.eq_iff_iff, List.all_eq_true, List.all_eq_true]; exact ⟨fun hh i hi => (h i hi) ▸ hh i hi, fun hh i hi => (h i hi).symm ▸ hh i hi⟩
theorem supp_bools (d1 d2 A : Bool) : (bif A then (d1 && d2) else false) = (bif (!d1) || (!d2) then false else A) := by cases d1 <;> cases d2 <;> cases A <;> rfl
/-- each supporter said it -/
theorem all_eq (hv : valid_f v = true) (hs : has_f m v.slot = true) (hk : kind ≤ 4) {p : Vt → Bool} (hp : ∀ x ∈ a.filter (counts_f m v), p x = true ↔ x.kind = kind ∧ x.round = round ∧ same_f v x = true) :
    rAll_f m v a kind round = supported_f m (quorum_f (size_f m)) v (a.filter (counts_f m v)) p := by
  unfold rAll_f supported_f
  rw [exact_eq hv, supp_bools]
  have e : (ids_f v.support).all (fun i => a.any fun x => sdF_f m v x i kind round) = (ids_f v.support).all fun i => (a.filter (counts_f m v)).any fun x => supported1_f x i p := by
    refine all_ids fun i _ => ?_
    rw [Bool.eq_iff_iff, saidF_iff hs hk, List.any_eq_true]
    unfold supported1_f
    constructor
    · rintro ⟨x, hx, h1, h2⟩
      exact ⟨x, hx, by rw [Bool.and_eq_true, decide_eq_true_eq]; exact ⟨h1, (hp x hx).2 h2⟩⟩
    · rintro ⟨x, hx, h⟩
      rw [Bool.and_eq_true, decide_eq_true_eq] at h
      exact ⟨x, hx, h.1, (hp x hx).1 h.2⟩
  rw [e]
theorem saidT_iff (hs : has_f m v.slot = true) (hk : kind ≤ 4) : (a.any fun x => sdT_f m v x s kind round) = true ↔ ∃ x ∈ a.filter (counts_f m v), x.signer = s ∧ x.kind = kind ∧ x.round = round ∧ x.choice = 2 := by
 rw [List.any_eq_true]; unfold sdT_f; constructor
 ·rintro ⟨x, hx, h⟩; simp only [Bool.and_eq_true, decide_eq_true_eq, Bool.not_true, Bool.false_and, Bool.or_false, Bool.true_and] at h; obtain ⟨⟨⟨⟨h1, h2⟩, h3⟩, h4⟩, h5⟩ := h; rw [counts_same hs (by omega)] at h5; exact ⟨x, List.mem_filter.2 ⟨hx, h5⟩, h1, h2, h3, h4⟩
 ·rintro ⟨x, hx, h1, h2, h3, h4⟩; rw [List.mem_filter] at hx; refine ⟨x, hx.1, ?_⟩; simp only [Bool.and_eq_true, decide_eq_true_eq, Bool.not_true, Bool.false_and, Bool.or_false, Bool.true_and]; exact ⟨⟨⟨⟨h1, h2⟩, h3⟩, h4⟩, by rw [counts_same hs (by omega)]; exact hx.2⟩
theorem adF_iff (hs : has_f m v.slot = true) {i : Int} : adF m v a i = true ↔ ∃ x ∈ a.filter (counts_f m v), x.signer = i ∧ P2 v x = true := by
 unfold adF; rw [saidF_iff hs (by omega)]; simp only [P2_iff']
theorem adT_iff (hs : has_f m v.slot = true) {i : Int} : adT m v a i = true ↔ ∃ x ∈ a.filter (counts_f m v), x.signer = i ∧ P3 v x = true := by
 unfold adT; rw [saidT_iff hs (by omega)]; simp only [P3_iff]
theorem adopts_eq (hv : valid_f v = true) (hs : has_f m v.slot = true) : rAdopts_f m v a = firstAlt m v (a.filter (counts_f m v)) := by
 unfold rAdopts_f firstAlt supported_f; rw [exact_eq hv]
 have e1 : (ids_f v.support).all (fun i => !((!(adF m v a i)) && (!(adT m v a i)))) = (ids_f v.support).all fun i => (a.filter (counts_f m v)).any fun x => supported1_f x i (P4 v) := by
  refine all_ids fun i _ => ?_
  rw [Bool.eq_iff_iff]
  have : (!((!(adF m v a i)) && (!(adT m v a i)))) = true ↔ adF m v a i = true ∨ adT m v a i = true := by cases adF m v a i <;> cases adT m v a i <;> simp
  rw [this, adF_iff hs, adT_iff hs, List.any_eq_true]
  unfold supported1_f
  constructor
  · rintro (⟨x, hx, h1, h2⟩ | ⟨x, hx, h1, h2⟩)
    · exact ⟨x, hx, by rw [Bool.and_eq_true, decide_eq_true_eq]; exact ⟨h1, P4_iff.2 (Or.inl h2)⟩⟩
    · exact ⟨x, hx, by rw [Bool.and_eq_true, decide_eq_true_eq]; exact ⟨h1, P4_iff.2 (Or.inr h2)⟩⟩
  · rintro ⟨x, hx, h⟩
    rw [Bool.and_eq_true, decide_eq_true_eq] at h
    rcases P4_iff.1 h.2 with h2 | h2
    · exact Or.inl ⟨x, hx, h.1, h2⟩
    · exact Or.inr ⟨x, hx, h.1, h2⟩
 have e2 : (ids_f v.support).any (adF m v a) = (a.filter (counts_f m v)).any (P5 v) := by
  rw [Bool.eq_iff_iff, List.any_eq_true, List.any_eq_true]
  constructor
  · rintro ⟨i, hi, h⟩
    obtain ⟨x, hx, h1, h2⟩ := (adF_iff hs).1 h
    exact ⟨x, hx, P5_iff.2 ⟨by rw [h1]; exact mem_ids.1 hi, h2⟩⟩
  · rintro ⟨x, hx, h⟩
    obtain ⟨h1, h2⟩ := P5_iff.1 h
    exact ⟨x.signer, mem_ids.2 h1, (adF_iff hs).2 ⟨x, hx, rfl, h2⟩⟩
 rw [e1, e2]; cases decide (iandn v.support m = 0) <;> cases decide (size_f v.support = quorum_f (size_f m)) <;> cases ((ids_f v.support).all fun i => (a.filter (counts_f m v)).any fun x => supported1_f x i (P4 v)) <;> cases (a.filter (counts_f m v)).any (P5 v) <;> rfl
theorem anyTen_iff {p : Int → Bool} : anyTen p = true ↔ ∃ i : Int, 0 ≤ i ∧ i ≤ 9 ∧ p i = true := by
 unfold anyTen; rw [List.any_eq_true]; constructor
 ·rintro ⟨k, hk, h⟩; rw [List.mem_range] at hk; exact ⟨k, by omega, by omega, h⟩
 ·rintro ⟨i, h0, h1, h⟩; refine ⟨i.toNat, List.mem_range.2 (by omega), ?_⟩; rw [Int.toNat_of_nonneg h0]; exact h
theorem carries_eq (hv : valid_f v = true) (hs : has_f m v.slot = true) : rCarries_f m v a = secondAlt m v (a.filter (counts_f m v)) := by
 unfold rCarries_f secondAlt supported_f; rw [exact_eq hv]
 have e1 : (ids_f v.support).all (adT m v a) = (ids_f v.support).all fun i => (a.filter (counts_f m v)).any fun x => supported1_f x i (P3 v) := by
  refine all_ids fun i _ => ?_
  rw [Bool.eq_iff_iff, adT_iff hs, List.any_eq_true]
  unfold supported1_f
  simp only [Bool.and_eq_true, decide_eq_true_eq]
 have e2 : anyTen (caF m v a) = (a.filter (counts_f m v)).any (P6 v) := by
  rw [Bool.eq_iff_iff, anyTen_iff, List.any_eq_true]
  constructor
  · rintro ⟨i, _, _, h⟩
    obtain ⟨x, hx, _, h2⟩ := (saidF_iff hs (by omega)).1 h
    exact ⟨x, hx, P6_iff'.2 h2⟩
  · rintro ⟨x, hx, h⟩
    have hb := (valid_bounds (counts_all (List.mem_filter.1 hx).2).1).2.1
    exact ⟨x.signer, hb.1, hb.2, (saidF_iff hs (by omega)).2 ⟨x, hx, rfl, P6_iff'.1 h⟩⟩
 rw [e1, e2]; cases decide (iandn v.support m = 0) <;> cases decide (size_f v.support = quorum_f (size_f m)) <;> cases ((ids_f v.support).all fun i => (a.filter (counts_f m v)).any fun x => supported1_f x i (P3 v)) <;> cases (a.filter (counts_f m v)).any (P6 v) <;> rfl
end
end Go.Proofs.YtdknjfmjddlphaaGreat
set_option linter.unusedSimpArgs false
set_option linter.unusedVariables false
namespace Go.Proofs.YtdknjfmjddlphaaGreat
open Go Go.Fk
section
variable {m : Int} {v : Vt} {a : List Vt}
theorem rBit_eq {i : Int} (h0 : 0 ≤ i) (h1 : i ≤ 9) : rBit_f i = ishl 1 i := by
 unfold rBit_f; have : ((decide (i < 0)) || (decide (10 ≤ i))) = false := by simp; omega
 rw [this]; rfl
/-- what two gathers -/
theorem two_told (m : Int) (v : Vt) (a : List Vt) : ∀ k, k ≤ a.length →
    let G := (a.take k).filter fun x => !(twoSkip m v x)
    let s := (a.take k).foldl (twoStep m v) (0, default, false, false)
    (∀ i, has_f s.1 i = true ↔ ∃ x ∈ G, x.signer = i) ∧ s.2.2.1 = !G.isEmpty ∧ (∀ y r, G = y :: r → s.2.1 = y) ∧ (s.2.2.2 = true ↔ ∃ x ∈ G, ∃ y r, G = y :: r ∧ same_f y x = false) := by
  intro k
  induction k with
  | zero => intro _; simp [has_zero]
  | succ k ih =>
    intro hk
    have hkl : k < a.length := by omega
    have ih := ih (by omega)
    simp only at ih ⊢
    rw [fold_go hkl, take_bang hkl, List.filter_append]
    generalize (a.take k).foldl (twoStep m v) (0, default, false, false) = s at ih ⊢
    generalize ((a.take k).filter fun x => !(twoSkip m v x)) = G at ih ⊢
    generalize a[k]! = x
    obtain ⟨i1, i2, i3, i4⟩ := ih
    cases h : twoSkip m v x with
    | true =>
      have e1 : twoStep m v s x = s := by unfold twoStep; rw [h]; rfl
      have e2 : [x].filter (fun x => !(twoSkip m v x)) = [] := by simp [h]
      rw [e1, e2, List.append_nil]
      exact ⟨i1, i2, i3, i4⟩
    | false =>
      have e2 : [x].filter (fun x => !(twoSkip m v x)) = [x] := by simp [h]
      have e1 : twoStep m v s x = (ior s.1 (rBit_f x.signer), bif !s.2.2.1 then x else s.2.1, bif !s.2.2.1 then true else s.2.2.1, bif (s.2.2.1 && (!(rLike_f s.2.1 x))) then true else s.2.2.2) := by unfold twoStep; rw [h]; rfl
      rw [e1, e2]
      have hx : 0 ≤ x.signer ∧ x.signer ≤ 9 := by
        unfold twoSkip at h
        simp only [Bool.or_eq_false_iff, Bool.not_eq_false'] at h
        have h2 := h.2
        rw [rCounts_eq] at h2
        simp only [Bool.and_eq_true] at h2
        exact (valid_bounds h2.2).2.1
      refine ⟨fun i => ?_, ?_, ?_, ?_⟩
      · show has_f (ior s.1 (rBit_f x.signer)) i = true ↔ _
        rw [rBit_eq hx.1 hx.2, has_ior, Bool.or_eq_true, i1, has_ishl hx.1 hx.2, decide_eq_true_eq]
        constructor
        · rintro (⟨z, hz, e⟩ | e)
          · exact ⟨z, List.mem_append_left _ hz, e⟩
          · exact ⟨x, List.mem_append_right _ (by simp), e.symm⟩
        · rintro ⟨z, hz, e⟩
          rcases List.mem_append.1 hz with hz | hz
          · exact Or.inl ⟨z, hz, e⟩
          · rw [List.mem_singleton] at hz; subst hz; exact Or.inr e.symm
      all_goals
        cases G with
        | nil =>
          simp only [List.isEmpty_nil, Bool.not_true] at i2
          simp [i2, i4]
          try (cases hu : s.2.2.2 <;> simp_all [same_f])
        | cons y r =>
          simp only [List.isEmpty_cons, Bool.not_false] at i2
          have i3' := i3 y r rfl
          simp [i2, i3']
          try (cases hu : s.2.2.2 <;> simp_all [rLike_eq])
          try (exact i4.elim Or.inl fun h => Or.inr (Or.inl h))
theorem not_skip (hs : has_f m v.slot = true) {x : Vt} : (!(twoSkip m v x)) = true ↔ counts_f m v x = true ∧ pre3ok v x = true := by
 have hp : pre3ok v x = true ↔ x.kind = 3 ∧ x.round = v.round ∧ has_f v.support x.signer = true := by
  unfold pre3ok precommit1_f
  simp only [Bool.and_eq_true, decide_eq_true_eq, and_assoc]
 rw [hp, Bool.not_eq_true']; unfold twoSkip; simp only [Bool.or_eq_false_iff, Bool.not_eq_false', decide_eq_true_eq]; constructor
 ·rintro ⟨⟨⟨h1, h2⟩, h3⟩, h4⟩; rw [counts_same hs (by omega)] at h4; exact ⟨h4, h1, h2, h3⟩
 ·rintro ⟨h4, h1, h2, h3⟩; exact ⟨⟨⟨h1, h2⟩, h3⟩, by rw [counts_same hs (by omega)]; exact h4⟩
/-- a part of a set, of its size, is the set -/
theorem ids_full {e t : Int} (h : ∀ i, has_f e i = true → has_f t i = true) : size_f e = size_f t ↔ ∀ i, has_f t i = true → has_f e i = true := by
 rw [size_ids, size_ids]; constructor
 ·intro hl i hi; cases hc : has_f e i with
  | true => rfl
  | false =>
   exfalso
   have hn : (i :: ids_f e).Nodup := List.nodup_cons.2 ⟨fun hm => (by rw [mem_ids, hc] at hm; cases hm), ids_nodup e⟩
   have := hn.length_le_of_subset (l₂ := ids_f t) fun j hj => by
     rcases List.mem_cons.1 hj with rfl | hj
     · exact mem_ids.2 hi
     · exact mem_ids.2 (h j (mem_ids.1 hj))
   rw [List.length_cons] at this
   omega
 ·intro hb; have h1 := (ids_nodup e).length_le_of_subset (l₂ := ids_f t) fun j hj => mem_ids.2 (h j (mem_ids.1 hj)); have h2 := (ids_nodup t).length_le_of_subset (l₂ := ids_f e) fun j hj => mem_ids.2 (hb j (mem_ids.1 hj)); omega
theorem two_eq (hv : valid_f v = true) (hs : has_f m v.slot = true) : rTwo_f m v a = bif !(supported_f m (quorum_f (size_f m)) v (a.filter (counts_f m v)) (fun xx => precommit1_f xx v)) then false else anySt (pre3q v) [] (a.filter (counts_f m v)) := by
 have ht := two_told m v a a.length (Nat.le_refl _); simp only [List.take_length] at ht; obtain ⟨t1, _, t3, t4⟩ := ht
 have hG : ∀ x, x ∈ a.filter (fun x => !(twoSkip m v x)) ↔ x ∈ a.filter (counts_f m v) ∧ pre3ok v x = true := fun x => by
  rw [List.mem_filter, List.mem_filter, not_skip hs, and_assoc]
 unfold rTwo_f two_s; generalize a.foldl (twoStep m v) (0, default, false, false) = st at t1 t3 t4
 have hunl : st.2.2.2 = anySt (pre3q v) [] (a.filter (counts_f m v)) := by
  rw [Bool.eq_iff_iff, t4, anySt_two]
  constructor
  · rintro ⟨x, hx, y, r, e, hne⟩
    have hy : y ∈ a.filter (fun x => !(twoSkip m v x)) := by rw [e]; simp
    exact ⟨x, ((hG x).1 hx).1, y, ((hG y).1 hy).1, ((hG x).1 hx).2, ((hG y).1 hy).2, hne⟩
  · rintro ⟨x, hx, y, hy, px, py, hne⟩
    have hxG := (hG x).2 ⟨hx, px⟩
    have hyG := (hG y).2 ⟨hy, py⟩
    cases hGe : a.filter (fun x => !(twoSkip m v x)) with
    | nil => rw [hGe] at hxG; cases hxG
    | cons z r =>
      rw [hGe] at hxG hyG
      cases h1 : same_f z x with
      | false => exact ⟨x, hxG, z, r, rfl, h1⟩
      | true =>
        refine ⟨y, hyG, z, r, rfl, ?_⟩
        cases h2 : same_f z y with
        | false => rfl
        | true =>
          rw [same_iff] at h1 h2
          have : same_f y x = true := same_iff.2 ⟨h2.1.symm.trans h1.1, h2.2.symm.trans h1.2⟩
          rw [this] at hne; cases hne
 have hp3 : ∀ x, pre3ok v x = true ↔ precommit1_f x v = true ∧ has_f v.support x.signer = true := fun x => by unfold pre3ok; rw [Bool.and_eq_true]
 have hsub : ∀ i, has_f st.1 i = true → has_f v.support i = true := fun i hi => by
  obtain ⟨x, hx, e⟩ := (t1 i).1 hi
  rw [← e]; exact ((hp3 x).1 ((hG x).1 hx).2).2
 have hsz : decide (size_f st.1 = size_f v.support) = (ids_f v.support).all fun i => (a.filter (counts_f m v)).any fun x => supported1_f x i (fun xx => precommit1_f xx v) := by
  rw [Bool.eq_iff_iff, decide_eq_true_eq, ids_full hsub, List.all_eq_true]
  constructor
  · intro h i hi
    obtain ⟨x, hx, e⟩ := (t1 i).1 (h i (mem_ids.1 hi))
    obtain ⟨h1, h2⟩ := (hG x).1 hx
    refine List.any_eq_true.2 ⟨x, h1, ?_⟩
    unfold supported1_f
    rw [Bool.and_eq_true, decide_eq_true_eq]
    exact ⟨e, ((hp3 x).1 h2).1⟩
  · intro h i hi
    obtain ⟨x, hx, h1⟩ := List.any_eq_true.1 (h i (mem_ids.2 hi))
    unfold supported1_f at h1
    rw [Bool.and_eq_true, decide_eq_true_eq] at h1
    exact (t1 i).2 ⟨x, (hG x).2 ⟨hx, (hp3 x).2 ⟨h1.2, by rw [h1.1]; exact hi⟩⟩, h1.1⟩
 unfold supported_f; rw [exact_eq hv, hunl, hsz]; cases decide (iandn v.support m = 0) <;> cases decide (size_f v.support = quorum_f (size_f m)) <;> cases ((ids_f v.support).all fun i => (a.filter (counts_f m v)).any fun x => supported1_f x i (fun xx => precommit1_f xx v)) <;> cases anySt (pre3q v) [] (a.filter (counts_f m v)) <;> rfl
end
end Go.Proofs.YtdknjfmjddlphaaGreat
set_option linter.unusedSimpArgs false
set_option linter.unusedVariables false
namespace Go.Proofs.YtdknjfmjddlphaaGreat
open Go Go.Fk
/-- one round of the reference's Accepted: the votes, and those from the slot's first on -/
def rSkip (s : Int) (x : Vt) : Bool := !decide (x.slot = s)
def rAccStep (m : Int) (st : List Vt × List Vt) (v : Vt) : List Vt × List Vt :=
  bif rAllowed_f m v (st.2.dropWhile (rSkip v.slot)) then (st.1 ++ [v], st.2.dropWhile (rSkip v.slot) ++ [v]) else (st.1, st.2.dropWhile (rSkip v.slot))
def rAccepted_f (m : Int) (parent : Nm) (l : List Vt) : List Vt := ((sorted voteLess_f (l.filter fun x => decide (x.parent = parent))).foldl (rAccStep m) ([], [])).1
/-- the values of the votes of a kind, round and choice -/
def valNo (kind round choice : Int) (x : Vt) : Bool := ((!decide (x.kind = kind)) || (!decide (x.round = round))) || (!decide (x.choice = choice))
def valStep (kind round choice : Int) (out : List Nm) (x : Vt) : List Nm := bif valNo kind round choice x then out else ins hashLess_f x.value out
def values_f (a : List Vt) (kind round choice : Int) : List Nm := a.foldl (valStep kind round choice) []
def rSlotOf (m : Int) (parent : Nm) (l : List Vt) (slot : Int) : List Vt := (rAccepted_f m parent l).filter fun x => decide (x.slot = slot)
def rProposals_f (m : Int) (parent : Nm) (l : List Vt) (slot : Int) : List Nm := values_f (rSlotOf m parent l slot) 1 0 1
def rEchoers_f (m : Int) (parent : Nm) (l : List Vt) (slot : Int) (value : Nm) : Int := rWho_f (rSlotOf m parent l slot) 2 0 1 value
def ceP (m : Int) (a : List Vt) (v : Nm) : Bool := decide (quorum_f (size_f m) ≤ size_f (rWho_f a 2 0 1 v))
def certOf_f (m : Int) (a : List Vt) : List Nm := (values_f a 2 0 1).filter (ceP m a)
def rCertified_f (m : Int) (parent : Nm) (l : List Vt) (slot : Int) : List Nm := certOf_f m (rSlotOf m parent l slot)
theorem val_no {kind round choice : Int} {out : List Nm} {x : Vt} (h : valNo kind round choice x = true) : valStep kind round choice out x = out := by unfold valStep; rw [h]; rfl
theorem val_yes {kind round choice : Int} {out : List Nm} {x : Vt} (h : valNo kind round choice x = false) : valStep kind round choice out x = ins hashLess_f x.value out := by unfold valStep; rw [h]; rfl
theorem ins_self {v : Nm} {t : List Nm} : ins hashLess_f v (v :: t) = v :: t := by
 unfold ins; rw [name_lin.irrefl]; simp
theorem ins_step {v y : Nm} {t : List Nm} (h : hashLess_f y v = true) : ins hashLess_f v (y :: t) = y :: ins hashLess_f v t := by
 conv => lhs; unfold ins
 rw [name_lin.asymm h]; have hne : ¬ v = y := fun e => by subst e; rw [name_lin.irrefl] at h; cases h
 simp [hne]
theorem ins_here {v y : Nm} {t : List Nm} (h : hashLess_f y v = false) (hne : ¬ y = v) : ins hashLess_f v (y :: t) = v :: y :: t := by
 have h1 : hashLess_f v y = true := by
  cases hc : hashLess_f v y with
  | true => rfl
  | false => exact absurd (name_lin.total _ _ h hc) hne
 unfold ins; rw [h1]; rfl
/-- the place k of v in out: what stands before it stays -/
theorem ins_go {v : Nm} {out : List Nm} {k : Nat} (hk : k < out.length) (h : ins hashLess_f v out = out.take k ++ ins hashLess_f v (out.drop k)) (hl : hashLess_f out[k]! v = true) : ins hashLess_f v out = out.take (k + 1) ++ ins hashLess_f v (out.drop (k + 1)) := by
 rw [h, drop_bang hk, ins_step hl, take_bang hk, List.append_assoc]; rfl
theorem ins_found {v : Nm} {out : List Nm} {k : Nat} (hk : k < out.length) (h : ins hashLess_f v out = out.take k ++ ins hashLess_f v (out.drop k)) (he : out[k]! = v) : ins hashLess_f v out = out := by
 rw [h]; conv => rhs; rw [← List.take_append_drop k out]
 congr 1; rw [drop_bang hk, he, ins_self]
theorem ins_put {v : Nm} {out : List Nm} {k : Nat} (hk : k ≤ out.length) (h : ins hashLess_f v out = out.take k ++ ins hashLess_f v (out.drop k)) (hn : k < out.length → hashLess_f out[k]! v = false ∧ ¬ out[k]! = v) : ins hashLess_f v out = out.take k ++ [v] ++ out.drop k := by
 rw [h, List.append_assoc]; congr 1; by_cases hl : k < out.length
 ·rw [drop_bang hl, ins_here (hn hl).1 (hn hl).2]; rfl
 ·rw [List.drop_of_length_le (by omega)]; rfl
theorem valStep_len (kind round choice : Int) (out : List Nm) (x : Vt) : (valStep kind round choice out x).length ≤ out.length + 1 := by
 unfold valStep; cases valNo kind round choice x
 ·exact ins_len _ out
 ·simp
theorem vals_len (kind round choice : Int) : ∀ (a : List Vt) (out : List Nm), (a.foldl (valStep kind round choice) out).length ≤ out.length + a.length
  | [], out => by simp
  | x :: t, out => by
    have h1 := valStep_len kind round choice out x
    have h2 := vals_len kind round choice t (valStep kind round choice out x)
    rw [List.foldl_cons, List.length_cons]; omega
theorem values_len (a : List Vt) (kind round choice : Int) : (values_f a kind round choice).length ≤ a.length := by
 have := vals_len kind round choice a []; simpa [values_f] using this
/-- the reference's Accepted -/
theorem skip_go {s : Int} {out suf : List Vt} {k : Nat} (hk : k < out.length) (h : (out.drop k).dropWhile (rSkip s) = suf) (hs : rSkip s out[k]! = true) : (out.drop (k + 1)).dropWhile (rSkip s) = suf := by
 rw [drop_bang hk, List.dropWhile_cons, if_pos hs] at h; exact h
theorem skip_end {s : Int} {out suf : List Vt} {k : Nat} (h : (out.drop k).dropWhile (rSkip s) = suf) (hs : k < out.length → rSkip s out[k]! = false) : out.drop k = suf := by
 by_cases hk : k < out.length
 ·rw [drop_bang hk, List.dropWhile_cons, if_neg (by rw [hs hk]; simp), ← drop_bang hk] at h; exact h
 ·rw [List.drop_of_length_le (by omega)] at h ⊢; exact h
theorem racc_yes {m : Int} {out suf e : List Vt} {v : Vt} (h : suf.dropWhile (rSkip v.slot) = e) (ha : rAllowed_f m v e = true) : rAccStep m (out, suf) v = (out ++ [v], e ++ [v]) := by
 unfold rAccStep; dsimp only; rw [h, ha]; rfl
theorem racc_no {m : Int} {out suf e : List Vt} {v : Vt} (h : suf.dropWhile (rSkip v.slot) = e) (ha : rAllowed_f m v e = false) : rAccStep m (out, suf) v = (out, e) := by
 unfold rAccStep; dsimp only; rw [h, ha]; rfl
theorem skip_t {out : List Vt} {u : Nat} {s : Int} (h : ((decide (((u : Nat) : Int) < (out.length : Int))) && (!decide (out[u]!.slot = s))) = true) : u < out.length ∧ rSkip s out[u]! = true := by
 rw [Bool.and_eq_true, decide_eq_true_eq] at h; exact ⟨by omega, h.2⟩
theorem skip_f {out : List Vt} {u : Nat} {s : Int} (h : ((decide (((u : Nat) : Int) < (out.length : Int))) && (!decide (out[u]!.slot = s))) = false) : u < out.length → rSkip s out[u]! = false := fun hu => by
  have : decide (((u : Nat) : Int) < (out.length : Int)) = true := decide_eq_true (by omega)
  rw [this, Bool.true_and] at h
  exact h
theorem less_t {out : List Nm} {u : Nat} {v : Nm} (h : ((decide (((u : Nat) : Int) < (out.length : Int))) && (rNmLess_f out[u]! v)) = true) : u < out.length ∧ hashLess_f out[u]! v = true := by
 rw [Bool.and_eq_true, decide_eq_true_eq, rNmLess_eq] at h; exact ⟨by omega, h.2⟩
theorem found_t {out : List Nm} {u : Nat} {v : Nm} (h : ((decide (((u : Nat) : Int) < (out.length : Int))) && (decide (out[u]! = v))) = true) : u < out.length ∧ out[u]! = v := by
 rw [Bool.and_eq_true, decide_eq_true_eq, decide_eq_true_eq] at h; exact ⟨by omega, h.2⟩
theorem put_t {out : List Nm} {u : Nat} {v : Nm} (h : ((decide (((u : Nat) : Int) < (out.length : Int))) && (rNmLess_f out[u]! v)) = false) (h2 : ((decide (((u : Nat) : Int) < (out.length : Int))) && (decide (out[u]! = v))) = false) : u < out.length → hashLess_f out[u]! v = false ∧ ¬ out[u]! = v := fun hu => by
  have : decide (((u : Nat) : Int) < (out.length : Int)) = true := decide_eq_true (by omega)
  rw [this, Bool.true_and] at h h2
  rw [rNmLess_eq] at h
  exact ⟨h, by simpa using h2⟩
theorem ready_go {l : List Vt} {k : Nat} {rd : Bool} (hrd : rd = true → ∀ i, i < k → i + 1 < l.length → voteLess_f l[i]! l[i + 1]! = true) (h : ((decide (((k + 1 : Nat) : Int) < (l.length : Int))) && rd) = true) : rVtLess_f l[k]! l[k + 1]! = true → ∀ i, i < k + 1 → i + 1 < l.length → voteLess_f l[i]! l[i + 1]! = true := fun h1 i hi hi2 => by
  rw [Bool.and_eq_true] at h
  by_cases e : i = k
  · subst e; rw [← rVtLess_eq]; exact h1
  · exact hrd h.2 i (by omega) hi2
section
variable {xa xb : List Vt}
theorem merge_end (h : ((decide ((0 : Int) < (xa.length : Int))) || (decide ((0 : Int) < (xb.length : Int)))) = false) : xa.length = 0 ∧ xb.length = 0 := by
 simp only [Bool.or_eq_false_iff, decide_eq_false_iff_not] at h; omega
theorem merge_l (h : ((decide ((0 : Int) < (xa.length : Int))) || (decide ((0 : Int) < (xb.length : Int)))) = true) (h1 : ((decide ((xb.length : Int) = 0)) || ((decide ((0 : Int) < (xa.length : Int))) && (rVtLess_f xa[0]! xb[0]!))) = true) : 0 < xa.length ∧ (xb.length = 0 ∨ voteLess_f xa[0]! xb[0]! = true) := by
 rw [rVtLess_eq] at h1; simp only [Bool.or_eq_true, Bool.and_eq_true, decide_eq_true_eq] at h h1; rcases h1 with h1 | h1
 ·exact ⟨by omega, Or.inl (by omega)⟩
 ·exact ⟨by omega, Or.inr h1.2⟩
theorem merge_r (h : ((decide ((0 : Int) < (xa.length : Int))) || (decide ((0 : Int) < (xb.length : Int)))) = true) (h1 : ((decide ((xb.length : Int) = 0)) || ((decide ((0 : Int) < (xa.length : Int))) && (rVtLess_f xa[0]! xb[0]!))) = false) (h2 : ((decide ((xa.length : Int) = 0)) || (rVtLess_f xb[0]! xa[0]!)) = true) : 0 < xb.length ∧ (xa.length = 0 ∨ voteLess_f xb[0]! xa[0]! = true) := by
 rw [rVtLess_eq] at h2; simp only [Bool.or_eq_true, Bool.or_eq_false_iff, Bool.and_eq_true, decide_eq_true_eq, decide_eq_false_iff_not] at h h1 h2; refine ⟨by omega, ?_⟩; rcases h2 with h2 | h2
 ·exact Or.inl (by omega)
 ·exact Or.inr h2
theorem merge_b (h : ((decide ((0 : Int) < (xa.length : Int))) || (decide ((0 : Int) < (xb.length : Int)))) = true) (h1 : ((decide ((xb.length : Int) = 0)) || ((decide ((0 : Int) < (xa.length : Int))) && (rVtLess_f xa[0]! xb[0]!))) = false) (h2 : ((decide ((xa.length : Int) = 0)) || (rVtLess_f xb[0]! xa[0]!)) = false) : 0 < xa.length ∧ 0 < xb.length ∧ voteLess_f xa[0]! xb[0]! = false ∧ voteLess_f xb[0]! xa[0]! = false := by
 rw [rVtLess_eq] at h1 h2; simp only [Bool.or_eq_true, Bool.or_eq_false_iff, decide_eq_true_eq, decide_eq_false_iff_not] at h h1 h2; have ha : 0 < xa.length := by omega
 have : decide ((0 : Int) < (xa.length : Int)) = true := decide_eq_true (by omega); rw [this, Bool.true_and] at h1; exact ⟨ha, by omega, h1.2, h2.2⟩
end
def allLess (out a : List Vt) : Prop := ∀ x ∈ out, ∀ y ∈ a, voteLess_f x y = true
structure Merging (l out a b : List Vt) : Prop where
  so : Asc voteLess_f out
  sa : Asc voteLess_f a
  sb : Asc voteLess_f b
  oa : allLess out a
  ob : allLess out b
  mem : ∀ x, (x ∈ out ∨ x ∈ a ∨ x ∈ b) ↔ x ∈ l
theorem asc_snoc {out : List Vt} {x : Vt} (h : Asc voteLess_f out) (hx : ∀ y ∈ out, voteLess_f y x = true) : Asc voteLess_f (out ++ [x]) := by
 unfold Asc; rw [List.pairwise_append]; exact ⟨h, by simp, fun y hy z hz => by rw [List.mem_singleton] at hz; subst hz; exact hx y hy⟩
theorem Merging.left {l out a b : List Vt} (h : Merging l out a b) (ha : 0 < a.length) (hb : b.length = 0 ∨ voteLess_f a[0]! b[0]! = true) : Merging l (out ++ [a[0]!]) (a.drop 1) b := by
 match a, ha with
 | x :: t, _ =>
  show Merging l (out ++ [x]) t b
  have hx : ∀ y ∈ b, voteLess_f x y = true := fun y hy => by
    rcases hb with hb | hb
    · rw [List.length_eq_zero_iff.1 hb] at hy; cases hy
    · match b, hy, hb, h with
      | z :: s, hy, hb, h =>
        rcases List.mem_cons.1 hy with e | hy
        · rw [e]; exact hb
        · exact vote_lin.trans _ _ _ hb ((List.pairwise_cons.1 h.sb).1 y hy)
  refine ⟨asc_snoc h.so fun y hy => h.oa y hy x (by simp), (List.pairwise_cons.1 h.sa).2, h.sb, fun y hy z hz => ?_, fun y hy z hz => ?_, fun y => ?_⟩
  · rcases List.mem_append.1 hy with hy | hy
    · exact h.oa y hy z (by simp [hz])
    · rw [List.mem_singleton] at hy; subst hy; exact (List.pairwise_cons.1 h.sa).1 z hz
  · rcases List.mem_append.1 hy with hy | hy
    · exact h.ob y hy z hz
    · rw [List.mem_singleton] at hy; subst hy; exact hx z hz
  · rw [← h.mem, List.mem_append, List.mem_singleton, List.mem_cons]
    constructor
    · rintro ((h | h) | h | h)
      · exact Or.inl h
      · exact Or.inr (Or.inl (Or.inl h))
      · exact Or.inr (Or.inl (Or.inr h))
      · exact Or.inr (Or.inr h)
    · rintro (h | (h | h) | h)
      · exact Or.inl (Or.inl h)
      · exact Or.inl (Or.inr h)
      · exact Or.inr (Or.inl h)
      · exact Or.inr (Or.inr h)
theorem Merging.symm {l out a b : List Vt} (h : Merging l out a b) : Merging l out b a :=
  ⟨h.so, h.sb, h.sa, h.ob, h.oa, fun x => by rw [← h.mem]; exact ⟨fun h => h.imp id Or.symm, fun h => h.imp id Or.symm⟩⟩
theorem Merging.right {l out a b : List Vt} (h : Merging l out a b) (hb : 0 < b.length) (ha : a.length = 0 ∨ voteLess_f b[0]! a[0]! = true) : Merging l (out ++ [b[0]!]) a (b.drop 1) := (h.symm.left hb ha).symm
/-- both begin alike: one of them goes -/
theorem Merging.both {l out a b : List Vt} (h : Merging l out a b) (ha : 0 < a.length) (hb : 0 < b.length) (h1 : voteLess_f a[0]! b[0]! = false) (h2 : voteLess_f b[0]! a[0]! = false) : Merging l out (a.drop 1) b := by
 match a, ha, b, hb with
 | x :: t, _, y :: s, _ =>
  have e : x = y := vote_lin.total _ _ h1 h2
  subst e
  show Merging l out t (x :: s)
  refine ⟨h.so, (List.pairwise_cons.1 h.sa).2, h.sb, fun y hy z hz => h.oa y hy z (by simp [hz]), h.ob, fun y => ?_⟩
  rw [← h.mem, List.mem_cons, List.mem_cons]
  constructor
  · rintro (h | h | h)
    · exact Or.inl h
    · exact Or.inr (Or.inl (Or.inr h))
    · exact Or.inr (Or.inr h)
  · rintro (h | (h | h) | h)
    · exact Or.inl h
    · exact Or.inr (Or.inr (Or.inl h))
    · exact Or.inr (Or.inl h)
    · exact Or.inr (Or.inr h)
theorem Merging.done {l out a b : List Vt} (h : Merging l out a b) (ha : a.length = 0) (hb : b.length = 0) : out = sorted voteLess_f l :=
  Asc.unique vote_lin h.so (sorted_asc vote_lin l) fun x => by
    rw [sorted_mem, ← h.mem, List.length_eq_zero_iff.1 ha, List.length_eq_zero_iff.1 hb]
    simp
theorem Merging.start {l : List Vt} (k : Nat) : Merging l [] (sorted voteLess_f (l.take k)) (sorted voteLess_f (l.drop k)) :=
  ⟨by simp [Asc], sorted_asc vote_lin _, sorted_asc vote_lin _, fun x hx => (by cases hx), fun x hx => (by cases hx), fun x => by
    rw [sorted_mem, sorted_mem]
    conv => rhs; rw [← List.take_append_drop k l]
    rw [List.mem_append]
    simp⟩
/-- ascending as it stands -/
theorem sorted_ready {l : List Vt} (h : ∀ i, i + 1 < l.length → voteLess_f l[i]! l[i + 1]! = true) : l = sorted voteLess_f l := by
 refine Asc.unique vote_lin ?_ (sorted_asc vote_lin l) fun x => (sorted_mem x l).symm
 have key : ∀ d i, i + d + 1 < l.length → voteLess_f l[i]! l[i + d + 1]! = true := by
  intro d
  induction d with
  | zero => exact fun i hi => h i hi
  | succ d ih => exact fun i hi => vote_lin.trans _ _ _ (ih i (by omega)) (h (i + d + 1) (by omega))
 unfold Asc; rw [List.pairwise_iff_getElem]; intro i j hi hj hij; have := key (j - i - 1) i (by omega); rw [show i + (j - i - 1) + 1 = j by omega, getElem!_pos l i hi, getElem!_pos l j hj] at this; exact this
theorem sorted_len' (l : List Vt) : (sorted voteLess_f l).length ≤ l.length := by
 have := sorted_len (lt := voteLess_f) l; exact this
end Go.Proofs.YtdknjfmjddlphaaGreat
set_option linter.unusedSimpArgs false
set_option linter.unusedVariables false
namespace Go.Proofs.YtdknjfmjddlphaaGreat
open Go Go.Fk
/-- member i has a vote of the kind for the value -/
def Sd (A : List Vt) (kind : Int) (value : Nm) (i : Int) : Prop := ∃ w ∈ A, w.kind = kind ∧ w.value = value ∧ w.signer = i
theorem sg_get {kind : Int} {A : List Vt} (hA : ∀ w ∈ A, 0 ≤ w.signer ∧ w.signer ≤ 9) : ∀ (x : Nm), (∀ i, has_f (mget (sgOf kind A) x) i = true ↔ Sd A kind x i) ∧ (x ∈ (sgOf kind A).map Prod.fst ↔ ∃ i, Sd A kind x i) := by
 have key : ∀ k, k ≤ A.length → (((sgOf kind (A.take k)).map Prod.fst).Nodup) ∧ ∀ x : Nm, (∀ i, has_f (mget (sgOf kind (A.take k)) x) i = true ↔ Sd (A.take k) kind x i) ∧ (x ∈ (sgOf kind (A.take k)).map Prod.fst ↔ ∃ i, Sd (A.take k) kind x i) := by
  intro k
  induction k with
  | zero =>
    refine fun _ => ⟨by simp [sgOf], fun o => ⟨fun i => ?_, ?_⟩⟩
    · have : mget (sgOf kind (A.take 0)) o = 0 := rfl
      rw [this]; simp [has_zero, Sd]
    · simp [Sd, sgOf]
  | succ k ih =>
    intro hk
    have hkl : k < A.length := by omega
    obtain ⟨hn, ih⟩ := ih (by omega)
    have hmem : A[k]! ∈ A := by rw [getElem!_pos A k hkl]; exact List.getElem_mem hkl
    have hb := hA _ hmem
    have hSd : ∀ o i, Sd (A.take (k + 1)) kind o i ↔ (Sd (A.take k) kind o i ∨ (A[k]!.kind = kind ∧ A[k]!.value = o ∧ A[k]!.signer = i)) := fun o i => by
      unfold Sd
      rw [take_bang hkl]
      constructor
      · rintro ⟨w, hw, r⟩
        rcases List.mem_append.1 hw with hw | hw
        · exact Or.inl ⟨w, hw, r⟩
        · rw [List.mem_singleton] at hw; subst hw; exact Or.inr r
      · rintro (⟨w, hw, r⟩ | r)
        · exact ⟨w, List.mem_append_left _ hw, r⟩
        · exact ⟨_, List.mem_append_right _ (List.mem_singleton.2 rfl), r⟩
    have hst : sgOf kind (A.take (k + 1)) = sgStep kind (sgOf kind (A.take k)) A[k]! := by unfold sgOf; exact fold_go hkl
    rw [hst]
    generalize sgOf kind (A.take k) = B at ih hn
    generalize A[k]! = v at hb hSd
    unfold sgStep
    cases hp : decide (v.kind = kind) with
    | false =>
      rw [decide_eq_false_iff_not] at hp
      refine ⟨hn, fun o => ?_⟩
      have : ∀ i, Sd (A.take (k + 1)) kind o i ↔ Sd (A.take k) kind o i := fun i => by
        rw [hSd]
        exact ⟨fun h => h.resolve_right fun h => hp h.1, Or.inl⟩
      simp only [cond_false, this]
      exact ih o
    | true =>
      rw [decide_eq_true_eq] at hp
      simp only [cond_true]
      refine ⟨mput_nodup hn, fun o => ?_⟩
      obtain ⟨h1, h2⟩ := ih o
      by_cases he : o = v.value
      · subst he
        have hget : mget (mput B v.value (ior (mget B v.value) (ishl 1 v.signer))) v.value = ior (mget B v.value) (ishl 1 v.signer) := mget_mem (mput_nodup hn) (p := (v.value, _)) (mput_mem.2 (Or.inl rfl))
        refine ⟨fun i => ?_, ?_⟩
        · rw [hget, has_ior, Bool.or_eq_true, h1, hSd, has_ishl hb.1 hb.2, decide_eq_true_eq]
          exact or_congr Iff.rfl ⟨fun e => ⟨hp, rfl, e.symm⟩, fun h => h.2.2.symm⟩
        · exact ⟨fun _ => ⟨v.signer, (hSd _ _).2 (Or.inr ⟨hp, rfl, rfl⟩)⟩, fun _ => List.mem_map.2 ⟨(v.value, _), mput_mem.2 (Or.inl rfl), rfl⟩⟩
      · have hno : ∀ i, Sd (A.take (k + 1)) kind o i ↔ Sd (A.take k) kind o i := fun i => by
          rw [hSd]
          exact ⟨fun h => h.resolve_right fun h => he h.2.1.symm, Or.inl⟩
        have hget : mget (mput B v.value (ior (mget B v.value) (ishl 1 v.signer))) o = mget B o := by
          by_cases ho2 : ∃ p ∈ B, p.1 = o
          · obtain ⟨p, hp2, rfl⟩ := ho2
            rw [mget_mem hn hp2]
            exact mget_mem (mput_nodup hn) (mput_mem.2 (Or.inr ⟨he, hp2⟩))
          · have : ∀ p ∈ B, p.1 ≠ o := fun p hp2 e => ho2 ⟨p, hp2, e⟩
            rw [mget_none this]
            refine mget_none fun p hp2 => ?_
            rcases mput_mem.1 hp2 with rfl | ⟨_, hp2⟩
            · exact fun e => he e.symm
            · exact this p hp2
        refine ⟨fun i => by rw [hget, hno]; exact h1 i, ?_⟩
        simp only [hno]
        rw [← h2, mput_keys]
        by_cases hk2 : v.value ∈ B.map Prod.fst
        · rw [if_pos hk2]
        · rw [if_neg hk2, List.mem_append, List.mem_singleton]
          exact ⟨fun h => h.resolve_right he, Or.inl⟩
 have := (key A.length (Nat.le_refl _)).2; rwa [List.take_length] at this
theorem mem_ascending {b : List (Nm × Int)} (hb : (b.map Prod.fst).Nodup) {n : Int} {x : Nm} : x ∈ ascending15_f b n ↔ x ∈ b.map Prod.fst ∧ x ≠ Nm.zero ∧ n ≤ size_f (mget b x) := by
 unfold ascending15_f; rw [sorted_mem, List.mem_map]; constructor
 ·rintro ⟨p, hp, rfl⟩; rw [List.mem_filter] at hp; obtain ⟨h1, h2⟩ := hp; unfold ascOut at h2; simp only [Bool.and_eq_true, Bool.not_eq_true', decide_eq_false_iff_not, decide_eq_true_eq] at h2; exact ⟨List.mem_map.2 ⟨p, h1, rfl⟩, h2.1, by rw [mget_mem hb h1]; exact h2.2⟩
 ·rintro ⟨h1, h2, h3⟩; obtain ⟨p, hp, rfl⟩ := List.mem_map.1 h1; refine ⟨p, List.mem_filter.2 ⟨hp, ?_⟩, rfl⟩; unfold ascOut; rw [mget_mem hb hp] at h3; simp [h2, h3]
theorem signers_keys (m : Int) (parent : Nm) (l : List Vt) (slot kind : Int) : ((signers_f m parent l slot kind).map Prod.fst).Nodup := sg_keys kind _ _ (by simp)
theorem echoers_has {m : Int} {parent : Nm} {l : List Vt} {slot : Int} {x : Nm} {i : Int} : has_f (echoers_f m parent l slot x) i = true ↔ Sd (slots_f m parent l slot) 2 x i := (sg_get slots_sigs x).1 i
theorem mem_certified {m : Int} {parent : Nm} {l : List Vt} {slot : Int} {x : Nm} : x ∈ certified_f m parent l slot ↔ (∃ i, Sd (slots_f m parent l slot) 2 x i) ∧ x ≠ Nm.zero ∧ quorum_f (size_f m) ≤ size_f (echoers_f m parent l slot x) := by
 unfold certified_f; rw [mem_ascending (signers_keys m parent l slot 2)]; unfold signers_f; rw [(sg_get slots_sigs x).2]; rfl
theorem sd_pos {m : Int} {parent : Nm} {l : List Vt} {slot kind : Int} {x : Nm} (h : ∃ i, Sd (slots_f m parent l slot) kind x i) : 1 ≤ size_f (mget (signers_f m parent l slot kind) x) := by
 obtain ⟨i, hi⟩ := h; have := size_some (((sg_get (kind := kind) slots_sigs x).1 i).2 hi); unfold signers_f; omega
theorem mem_proposals {m : Int} {parent : Nm} {l : List Vt} {slot : Int} {x : Nm} : x ∈ proposals_f m parent l slot ↔ (∃ i, Sd (slots_f m parent l slot) 1 x i) ∧ x ≠ Nm.zero := by
 unfold proposals_f; rw [mem_ascending (signers_keys m parent l slot 1)]; have : x ∈ (signers_f m parent l slot 1).map Prod.fst ↔ ∃ i, Sd (slots_f m parent l slot) 1 x i := (sg_get slots_sigs x).2; rw [this]; exact ⟨fun ⟨h1, h2, _⟩ => ⟨h1, h2⟩, fun ⟨h1, h2⟩ => ⟨h1, h2, sd_pos h1⟩⟩
theorem valid_value {v : Vt} (h : valid_f v = true) : (v.choice = 1 ↔ ¬ v.value = Nm.zero) ∧ iandn v.support 1023 = 0 ∧ (v.kind = 1 ∨ v.kind = 2 → v.choice = 1 ∧ v.support = 0 ∧ v.round = 0) := by
 unfold valid_f at h; cases h1 : (!(between_f v.kind 1 7)) || (!(between_f v.signer 0 9)) with
 | true => rw [h1] at h; simp at h
 | false =>
  rw [h1] at h
  simp only [cond_false] at h
  cases h2 : ((decide (v.choice = 1)) == (decide (v.value = Nm.zero))) || (!decide ((iandn v.support 1023) = 0)) with
  | true => rw [h2] at h; simp at h
  | false =>
    rw [h2] at h
    simp only [cond_false] at h
    simp only [Bool.or_eq_false_iff, Bool.not_eq_false', decide_eq_true_eq] at h2
    refine ⟨?_, h2.2, ?_⟩
    · have := h2.1
      by_cases hc : v.choice = 1 <;> by_cases hv : v.value = Nm.zero <;> simp [hc, hv] at this ⊢
    · rintro (hk | hk)
      · simp [hk] at h; exact ⟨h.2, h.1.2.2, h.1.2.1⟩
      · simp [hk] at h; exact ⟨h.2, h.1.2.2, h.1.2.1⟩
end Go.Proofs.YtdknjfmjddlphaaGreat
set_option linter.unusedSimpArgs false
set_option linter.unusedVariables false
namespace Go.Proofs.YtdknjfmjddlphaaGreat
open Go Go.Fk
section
variable {m : Int} {v : Vt} {a : List Vt}
theorem rGuard_eq : rGuard m v = ((((!(valid_f v)) || (decide (4 < v.kind))) || (!(has_f m v.signer))) || (!(has_f m v.slot))) := by
 unfold rGuard; rw [rValid_eq]; rfl
theorem echo_eq (hv : valid_f v = true) (hs : has_f m v.slot = true) (hk : v.kind = 2) : anyTen (ecF m v a) = (a.filter (counts_f m v)).any (fun xx => allowed1_f xx v) := by
 rw [Bool.eq_iff_iff, anyTen_iff, List.any_eq_true]; constructor
 ·rintro ⟨i, _, _, h⟩; obtain ⟨x, hx, _, h2, _, h4⟩ := (saidF_iff hs (by omega)).1 h; refine ⟨x, hx, ?_⟩; unfold allowed1_f; rw [Bool.and_eq_true, decide_eq_true_eq]; exact ⟨h2, h4⟩
 ·rintro ⟨x, hx, h⟩; unfold allowed1_f at h; rw [Bool.and_eq_true, decide_eq_true_eq] at h; have hxv := (counts_all (List.mem_filter.1 hx).2).1; have hb := (valid_bounds hxv).2.1; exact ⟨x.signer, hb.1, hb.2, (saidF_iff hs (by omega)).2 ⟨x, hx, rfl, h.1, valid_round0 hxv (Or.inl h.1), h.2⟩⟩
theorem allowed_eq (m : Int) (v : Vt) (a : List Vt) : rAllowed_f m v a = allowed_f m v a := by
 unfold rAllowed_f allowed_f; rw [rGuard_eq]; cases hg : (((!(valid_f v)) || (decide (4 < v.kind))) || (!(has_f m v.signer))) || (!(has_f m v.slot)) with
 | true => rfl
 | false =>
  simp only [cond_false]
  simp only [Bool.or_eq_false_iff, Bool.not_eq_false', decide_eq_false_iff_not] at hg
  have hv := hg.1.1.1
  have hs := hg.2
  have hvb := valid_bounds hv
  by_cases k1 : v.kind = 1
  · simp only [k1, decide_true, cond_true]
  · by_cases k2 : v.kind = 2
    · have e := echo_eq (a := a) hv hs k2
      rw [e]
      simp [k1, k2]
    · by_cases k3 : v.kind = 3
      · by_cases r1 : v.round = 1
        · have e := all_eq (a := a) (kind := 2) (round := 0) hv hs (by omega) (p := fun xx => prevote1_f xx v) (fun x hx => by
            have hxv := (counts_all (List.mem_filter.1 hx).2).1
            unfold prevote1_f
            rw [Bool.and_eq_true, decide_eq_true_eq]
            exact ⟨fun h => ⟨h.1, valid_round0 hxv (Or.inr h.1), h.2⟩, fun h => ⟨h.1, h.2.2⟩⟩)
          rw [e]
          unfold prevote_f
          cases hc : decide (v.choice = 0) <;> simp [k1, k2, k3, r1, hc] <;> simp_all
        · rw [adopts_eq hv hs, carries_eq hv hs, prevote_alts r1]
          simp only [k3, r1, decide_true, decide_false, Bool.and_false, cond_false, cond_true]
          cases firstAlt m v (a.filter (counts_f m v)) <;> simp
      · have k4 : v.kind = 4 := by omega
        have e := all_eq (a := a) (kind := 3) (round := v.round) hv hs (by omega) (p := fun xx => precommit2_f xx (fun xx => precommit1_f xx v) v) (fun x hx => by
            unfold precommit2_f precommit1_f
            simp only [Bool.and_eq_true, decide_eq_true_eq, and_assoc])
        rw [e, two_eq hv hs]
        unfold precommit_f
        by_cases c2 : v.choice = 2 <;> simp [k4, c2]
end
theorem dropWhile_head {α : Type} {p : α → Bool} : ∀ {l : List α} {y : α} {t : List α}, l.dropWhile p = y :: t → p y = false
  | [], y, t, h => by simp at h
  | x :: l, y, t, h => by
    rw [List.dropWhile_cons] at h
    by_cases hp : p x = true
    · rw [if_pos hp] at h; exact dropWhile_head h
    · rw [if_neg hp] at h
      injection h with h1 h2
      rw [← h1]; simpa using hp
theorem takeWhile_mem {α : Type} {p : α → Bool} {l : List α} {x : α} (h : x ∈ l.takeWhile p) : p x = true := by
 have := List.all_takeWhile (p := p) (l := l); rw [List.all_eq_true] at this; exact this x h
theorem racc_gain {m : Int} {parent : Nm} : ∀ (rest out pre suf : List Vt), Asc voteLess_f rest → (∀ x ∈ rest, x.parent = parent) → out = pre ++ suf → out.Pairwise (fun a b => a.slot ≤ b.slot) → (∀ y ∈ rest, ∀ x ∈ out, x.slot ≤ y.slot) → (∀ y ∈ rest, ∀ x ∈ pre, x.slot < y.slot) → (rest.foldl (rAccStep m) (out, suf)).1 = rest.foldl (gain m) out
  | [], out, pre, suf, _, _, _, _, _, _ => rfl
  | v :: t, out, pre, suf, ha, hp, ho, hpw, hle, hlt => by
    obtain ⟨a1, a2⟩ := List.pairwise_cons.1 ha
    have htp : ∀ x ∈ t, x.parent = parent := fun x hx => hp x (by simp [hx])
    have hvt : ∀ y ∈ t, v.slot ≤ y.slot := fun y hy => vote_slot (a1 y hy) ((hp v (by simp)).trans (hp y (by simp [hy])).symm)
    have hsp : suf.takeWhile (rSkip v.slot) ++ suf.dropWhile (rSkip v.slot) = suf := List.takeWhile_append_dropWhile
    have hd0 : ∀ x ∈ suf.takeWhile (rSkip v.slot), ¬ x.slot = v.slot := fun x hx => by
      have := takeWhile_mem hx
      unfold rSkip at this
      simpa using this
    have he0 : ∀ y t, suf.dropWhile (rSkip v.slot) = y :: t → y.slot = v.slot := fun y t h => by
      have := dropWhile_head h
      unfold rSkip at this
      simpa using this
    generalize hd : suf.takeWhile (rSkip v.slot) = d at hsp hd0
    generalize he : suf.dropWhile (rSkip v.slot) = e at hsp he0
    have ho2 : out = (pre ++ d) ++ e := by rw [ho, ← hsp, List.append_assoc]
    have hvo : ∀ x ∈ out, x.slot ≤ v.slot := hle v (by simp)
    have hpre : ∀ x ∈ pre ++ d, x.slot < v.slot := fun x hx => by
      rcases List.mem_append.1 hx with hx | hx
      · exact hlt v (by simp) x hx
      · have h1 := hd0 x hx
        have h2 := hvo x (by rw [ho2]; simp [hx])
        omega
    have hsuf : ∀ x ∈ e, x.slot = v.slot := fun x hx => by
      cases e with
      | nil => cases hx
      | cons y r =>
        have hy := he0 y r rfl
        rcases List.mem_cons.1 hx with e' | hx
        · rw [e']; exact hy
        · rw [ho2] at hpw
          have h1 := (List.pairwise_cons.1 (List.pairwise_append.1 hpw).2.1).1 x hx
          have h2 := hvo x (by rw [ho2]; simp [hx])
          omega
    have hfil : out.filter (fun x => decide (x.slot = v.slot)) = e := by
      rw [ho2, List.filter_append]
      have e1 : (pre ++ d).filter (fun x => decide (x.slot = v.slot)) = [] := by
        rw [List.filter_eq_nil_iff]
        intro x hx
        have := hpre x hx
        simp; omega
      have e2 : e.filter (fun x => decide (x.slot = v.slot)) = e := by
        rw [List.filter_eq_self]
        intro x hx
        simp [hsuf x hx]
      rw [e1, e2, List.nil_append]
    have hal : rAllowed_f m v e = allowed_f m v out := by
      rw [allowed_eq, ← hfil]; exact allowed_slot rfl
    rw [List.foldl_cons, List.foldl_cons]
    unfold gain
    cases hb : allowed_f m v out with
    | true =>
      rw [racc_yes he (hal.trans hb), cond_true]
      refine racc_gain t (out ++ [v]) (pre ++ d) (e ++ [v]) a2 htp (by rw [ho2, List.append_assoc]) ?_ ?_ ?_
      · rw [List.pairwise_append]
        exact ⟨hpw, by simp, fun x hx y hy => by rw [List.mem_singleton] at hy; rw [hy]; exact hvo x hx⟩
      · intro y hy x hx
        have := hvt y hy
        rcases List.mem_append.1 hx with hx | hx
        · have := hvo x hx; omega
        · rw [List.mem_singleton] at hx; rw [hx]; exact this
      · intro y hy x hx
        have := hvt y hy
        have := hpre x hx
        omega
    | false =>
      rw [racc_no he (hal.trans hb), cond_false]
      refine racc_gain t out (pre ++ d) e a2 htp ho2 hpw ?_ ?_
      · intro y hy x hx
        have := hvt y hy
        have := hvo x hx
        omega
      · intro y hy x hx
        have := hvt y hy
        have := hpre x hx
        omega
theorem accepted_eq (m : Int) (parent : Nm) (l : List Vt) : rAccepted_f m parent l = accepted_f m parent l := by
 rw [accepted_gain]; show ((asc_f parent l).foldl (rAccStep m) ([], [])).1 = _; exact racc_gain (parent := parent) _ [] [] [] (sorted_asc vote_lin _) (fun x hx => (asc_parent hx).1) rfl (by simp) (by simp) (by simp)
end Go.Proofs.YtdknjfmjddlphaaGreat
set_option linter.unusedSimpArgs false
set_option linter.unusedVariables false
namespace Go.Proofs.YtdknjfmjddlphaaGreat
open Go Go.Fk
section
variable {A : List Vt} {kind round choice : Int} {value : Nm}
theorem whoP_iff {x : Vt} : whoP kind round choice value x = true ↔ x.kind = kind ∧ x.round = round ∧ x.choice = choice ∧ x.value = value := by
 unfold whoP; simp only [Bool.and_eq_true, decide_eq_true_eq, and_assoc]
theorem has_who_go {i : Int} : ∀ (A : List Vt) (t : Int), (∀ w ∈ A, 0 ≤ w.signer ∧ w.signer ≤ 9) → (has_f (A.foldl (whoStep kind round choice value) t) i = true ↔ has_f t i = true ∨ ∃ w ∈ A, whoP kind round choice value w = true ∧ w.signer = i)
  | [], t, _ => by simp
  | x :: A, t, hA => by
    have hb := hA x (by simp)
    rw [List.foldl_cons, has_who_go A _ (fun w hw => hA w (by simp [hw]))]
    cases h : whoP kind round choice value x with
    | true =>
      rw [who_yes h, rBit_eq hb.1 hb.2, has_ior, Bool.or_eq_true, has_ishl hb.1 hb.2, decide_eq_true_eq]
      constructor
      · rintro ((h1 | h1) | ⟨w, hw, h2⟩)
        · exact Or.inl h1
        · exact Or.inr ⟨x, by simp, h, h1.symm⟩
        · exact Or.inr ⟨w, by simp [hw], h2⟩
      · rintro (h1 | ⟨w, hw, h2, h3⟩)
        · exact Or.inl (Or.inl h1)
        · rcases List.mem_cons.1 hw with e | hw
          · rw [e] at h3; exact Or.inl (Or.inr h3.symm)
          · exact Or.inr ⟨w, hw, h2, h3⟩
    | false =>
      rw [who_no h]
      constructor
      · rintro (h1 | ⟨w, hw, h2⟩)
        · exact Or.inl h1
        · exact Or.inr ⟨w, by simp [hw], h2⟩
      · rintro (h1 | ⟨w, hw, h2, h3⟩)
        · exact Or.inl h1
        · rcases List.mem_cons.1 hw with e | hw
          · rw [e, h] at h2; cases h2
          · exact Or.inr ⟨w, hw, h2, h3⟩
theorem has_who {i : Int} (hA : ∀ w ∈ A, 0 ≤ w.signer ∧ w.signer ≤ 9) : has_f (rWho_f A kind round choice value) i = true ↔ ∃ w ∈ A, whoP kind round choice value w = true ∧ w.signer = i := by
 unfold rWho_f; rw [has_who_go A 0 hA, has_zero]; simp
theorem low_who_go : ∀ (A : List Vt) (t : Int), (∀ w ∈ A, 0 ≤ w.signer ∧ w.signer ≤ 9) → Low t → Low (A.foldl (whoStep kind round choice value) t)
  | [], t, _, h => h
  | x :: A, t, hA, h => by
    have hb := hA x (by simp)
    rw [List.foldl_cons]
    refine low_who_go A _ (fun w hw => hA w (by simp [hw])) ?_
    cases hw : whoP kind round choice value x with
    | true => rw [who_yes hw, rBit_eq hb.1 hb.2]; exact low_ior h (low_ishl hb.1 hb.2)
    | false => rw [who_no hw]; exact h
theorem low_who (hA : ∀ w ∈ A, 0 ≤ w.signer ∧ w.signer ≤ 9) : Low (rWho_f A kind round choice value) := low_who_go A 0 hA low_zero
theorem valNo_iff {x : Vt} : valNo kind round choice x = false ↔ x.kind = kind ∧ x.round = round ∧ x.choice = choice := by
 unfold valNo; simp only [Bool.or_eq_false_iff, Bool.not_eq_false', decide_eq_true_eq, and_assoc]
theorem values_go : ∀ (A : List Vt) (out : List Nm), Asc hashLess_f out → Asc hashLess_f (A.foldl (valStep kind round choice) out) ∧ ∀ v, v ∈ A.foldl (valStep kind round choice) out ↔ v ∈ out ∨ ∃ w ∈ A, (w.kind = kind ∧ w.round = round ∧ w.choice = choice) ∧ w.value = v
  | [], out, h => by simp [h]
  | x :: A, out, h => by
    rw [List.foldl_cons]
    cases hx : valNo kind round choice x with
    | true =>
      rw [val_no hx]
      obtain ⟨h1, h2⟩ := values_go A out h
      refine ⟨h1, fun v => ?_⟩
      rw [h2]
      refine or_congr Iff.rfl ⟨fun ⟨w, hw, r⟩ => ⟨w, by simp [hw], r⟩, fun ⟨w, hw, r⟩ => ?_⟩
      rcases List.mem_cons.1 hw with e | hw
      · rw [e] at r
        rw [valNo_iff.2 r.1] at hx; cases hx
      · exact ⟨w, hw, r⟩
    | false =>
      rw [val_yes hx]
      obtain ⟨h1, h2⟩ := values_go A (ins hashLess_f x.value out) (asc_ins name_lin _ h)
      refine ⟨h1, fun v => ?_⟩
      rw [h2, mem_ins]
      constructor
      · rintro ((h | h) | ⟨w, hw, r⟩)
        · exact Or.inr ⟨x, by simp, valNo_iff.1 hx, h.symm⟩
        · exact Or.inl h
        · exact Or.inr ⟨w, by simp [hw], r⟩
      · rintro (h | ⟨w, hw, r⟩)
        · exact Or.inl (Or.inr h)
        · rcases List.mem_cons.1 hw with e | hw
          · rw [e] at r; exact Or.inl (Or.inl r.2.symm)
          · exact Or.inr ⟨w, hw, r⟩
theorem values_asc : Asc hashLess_f (values_f A kind round choice) := (values_go A [] (by simp [Asc])).1
theorem mem_values {v : Nm} : v ∈ values_f A kind round choice ↔ ∃ w ∈ A, (w.kind = kind ∧ w.round = round ∧ w.choice = choice) ∧ w.value = v := by
 have := (values_go (kind := kind) (round := round) (choice := choice) A [] (by simp [Asc])).2 v; unfold values_f; rw [this]; simp
end
theorem slots_eq (m : Int) (parent : Nm) (l : List Vt) (slot : Int) : rSlotOf m parent l slot = slots_f m parent l slot := by
 unfold rSlotOf slots_f; rw [accepted_eq, ← acc_own]; refine Asc.unique vote_lin (acc_asc _ _ _) (acc_asc _ _ _) fun x => ⟨acc_mono (fun y hy => ?_) x, acc_least (fun v hv hp ha => ?_) x⟩
 ·unfold own_f at hy; rw [List.mem_filter] at hy ⊢; simp only [Bool.and_eq_true, decide_eq_true_eq] at hy ⊢; exact ⟨hy.1, hy.2.1⟩
 ·have hg := allowed_guard ha; rw [List.mem_filter] at hv; have h2 := hv.2; rw [decide_eq_true_eq] at h2; exact acc_closed hp (List.mem_filter.2 ⟨hv.1, by simp [h2, hg.2.1]⟩) ha
theorem slots_valid {m : Int} {parent : Nm} {l : List Vt} {slot : Int} {w : Vt} (h : w ∈ slots_f m parent l slot) : valid_f w = true := (allowed_guard (acc_mem_allowed h)).1
theorem mem_values_sd {m : Int} {parent : Nm} {l : List Vt} {slot kind : Int} (hk : kind = 1 ∨ kind = 2) {x : Nm} : x ∈ values_f (slots_f m parent l slot) kind 0 1 ↔ (∃ i, Sd (slots_f m parent l slot) kind x i) ∧ x ≠ Nm.zero := by
 rw [mem_values]; constructor
 ·rintro ⟨w, hw, ⟨h1, h2, h3⟩, h4⟩; refine ⟨⟨w.signer, w, hw, h1, h4, rfl⟩, ?_⟩; rw [← h4]; exact (valid_value (slots_valid hw)).1.1 h3
 ·rintro ⟨⟨i, w, hw, h1, h2, h3⟩, h4⟩; have hv := (valid_value (slots_valid hw)).2.2 (by omega); exact ⟨w, hw, ⟨h1, hv.2.2, hv.1⟩, h2⟩
theorem rProposals_eq (m : Int) (parent : Nm) (l : List Vt) (slot : Int) : rProposals_f m parent l slot = proposals_f m parent l slot := by
 unfold rProposals_f; rw [slots_eq]; refine Asc.unique nm_lin values_asc (sorted_asc nm_lin _) fun x => ?_; rw [mem_values_sd (Or.inl rfl)]; exact mem_proposals.symm
theorem rEchoers_eq (m : Int) (parent : Nm) (l : List Vt) (slot : Int) (x : Nm) : rEchoers_f m parent l slot x = echoers_f m parent l slot x := by
 unfold rEchoers_f; rw [slots_eq]; refine low_ext (low_who slots_sigs) (echoers_small m parent l slot x) fun i => ?_; rw [Bool.eq_iff_iff, has_who slots_sigs, echoers_has]; unfold Sd; constructor
 ·rintro ⟨w, hw, h, e⟩; obtain ⟨h1, h2, h3, h4⟩ := whoP_iff.1 h; exact ⟨w, hw, h1, h4, e⟩
 ·rintro ⟨w, hw, h1, h2, e⟩; have hv := (valid_value (slots_valid hw)).2.2 (Or.inr h1); exact ⟨w, hw, whoP_iff.2 ⟨h1, hv.2.2, hv.1, h2⟩, e⟩
theorem rCertified_eq (m : Int) (parent : Nm) (l : List Vt) (slot : Int) : rCertified_f m parent l slot = certified_f m parent l slot := by
 have he := rEchoers_eq m parent l slot; unfold rCertified_f certOf_f; refine Asc.unique nm_lin (values_asc.sublist List.filter_sublist) (sorted_asc nm_lin _) fun x => ?_; rw [List.mem_filter]; show _ ↔ x ∈ certified_f m parent l slot; rw [mem_certified]; unfold ceP; rw [decide_eq_true_eq]; have e : rWho_f (rSlotOf m parent l slot) 2 0 1 x = echoers_f m parent l slot x := he x; rw [e, slots_eq, mem_values_sd (Or.inr rfl), and_assoc]
end Go.Proofs.YtdknjfmjddlphaaGreat
set_option linter.unusedSectionVars false
set_option linter.unusedVariables false
namespace Go.Fk
open Go
section
variable {P : Program} {o : Oper} {f : Fr} {w : World}
theorem op_quoN {t ty : TypeId} {x y : Operand} {k d : Nat} (ho : o.op = .binOp .quo t x y ty) (hx : evalF f x = .int .i64 (k : Int)) (hy : evalF f y = .int .i64 (d : Int)) (hd : 0 < d) (hm : (k : Int) < 9223372036854775808) : (execOp (evalF f) o).run P w = .ok (.value (.int .i64 ((k / d : Nat) : Int))) w := by
 have h := op_quo (P := P) (w := w) ho hx hy (by omega) (by omega) hm; rw [← Int.natCast_ediv] at h; exact h
/-- the rest of a slice, told at an earlier world too -/
theorem op_slr_l2 {α : Type} [Enc α] {wS : World} {t e : TypeId} {x i : Operand} {A : Option Addr} {c k lo hi lo' hi' : Nat} {ki : IntKind} {l : List α} (T : TySl P t e α) (ho : o.op = .slice t x (some i) none none) (hx : evalF f x = .slice A l.length c) (hix : evalF f i = .int ki (k : Int)) (hk : k ≤ l.length) (hc : l.length ≤ c) (hR : Rd w lo hi A l) (hS : Rd wS lo' hi' A l) :
    OpS P o f w fun u w' => (∃ A' c', u = .slice A' (l.drop k).length c' ∧ (l.drop k).length ≤ c' ∧ Rd w' lo hi A' (l.drop k) ∧ Rd wS lo' hi' A' (l.drop k)) ∧ Ext w w' :=
  OpS.val (op_slice_l T ho hx hix hk) ⟨⟨_, _, by rw [List.length_drop], by rw [List.length_drop]; omega, hR.drop hk hc, hS.drop hk hc⟩, Ext.refl w⟩
/-- a slice whose memory is not older than block n -/
def SlN {α : Type} [Enc α] (n : Nat) (w : World) (u : Value) (l : List α) : Prop := ∃ A c, u = .slice A l.length c ∧ l.length ≤ c ∧ Rd w n w.heap.size A l
section
variable {α β : Type} [Enc α] [Enc β] {n n' : Nat} {w' : World} {u v v' : Value} {l : List α} {l' : List β} {e : TypeId} {base : Nat}
theorem SlN.ext (h : SlN n w u l) (hx : Ext w w') : SlN n w' u l := by
 obtain ⟨A, c, e, hc, hr⟩ := h; exact ⟨A, c, e, hc, (hr.ext hx).mono (Nat.le_refl _) hx.size⟩
theorem SlN.slr (h : SlN n w u l) : SlR w u l := by
 obtain ⟨A, c, e, hc, hr⟩ := h; exact ⟨A, c, _, _, e, hc, hr⟩
theorem SlN.nil (n : Nat) (w : World) : SlN n w (.slice none 0 0) ([] : List α) := ⟨none, 0, rfl, Nat.le_refl _, Rd.nil _ _ _ _⟩
theorem Own.sln (h : Own w base e v l) (hn : n ≤ base) : SlN n w v l := by
 obtain ⟨A, c, e, hr, hc⟩ := h.form; exact ⟨A, c, e, hc, hr.mono hn (Nat.le_refl _)⟩
theorem sln_at (h : u = v) (hO : SlN n w v l) : SlN n w u l := by subst h; exact hO
/-- the slice u lies elsewhere than the slice v that is the call's own -/
def SlA (w : World) (v u : Value) (l : List α) : Prop := ∃ A c lo hi, u = .slice A l.length c ∧ l.length ≤ c ∧ Rd w lo hi A l ∧ hi ≤ w.heap.size ∧ ∀ g, v.ownBlock = some g → g < lo ∨ hi ≤ g
theorem SlN.sla (h : SlN n w u l) (hv : ∀ g, v.ownBlock = some g → g < n) : SlA w v u l := by
 obtain ⟨A, c, e, hc, hr⟩ := h; exact ⟨A, c, _, _, e, hc, hr, Nat.le_refl _, fun g hg => Or.inl (hv g hg)⟩
theorem Rd.away {lo hi g : Nat} {A : Option Addr} (h : Rd w lo hi A l) (hg : w.grownBy w' (some g)) (hn : g < lo ∨ hi ≤ g) : Rd w' lo hi A l := ⟨h.1, fun h0 => by
  obtain ⟨ad, e, h1, h2, hc⟩ := h.2 h0
  refine ⟨ad, e, h1, h2, fun k x hk j z hz => ?_⟩
  have hcell := hc k x hk j z hz
  have hlt := World.block_lt_of_cell? w _ hcell
  have hb : ((ad.add (k * Enc.size α)).add j).block = ad.block := by rw [add_block, add_block]
  rw [hb] at hlt
  have hne : (some ad.block : Option Nat) ≠ some g := by
    intro e
    injection e with e
    omega
  rw [← hcell]
  have := hg.block ad.block hlt hne
  unfold World.cell?
  rw [hb, this]⟩
theorem SlA.app (h : SlA w v u l) (hg : w.grownBy w' v.ownBlock) (hb : v'.ownBlock = v.ownBlock ∨ v'.ownBlock = some w.heap.size) : SlA w' v' u l := by
 obtain ⟨A, c, lo, hi, e, hc, hr, hh, hs⟩ := h
 have hr' : Rd w' lo hi A l := by
  cases hv : v.ownBlock with
  | none => rw [hv] at hg; exact hr.ext (ext_of_grown hg)
  | some g => rw [hv] at hg; exact hr.away hg (hs g hv)
 refine ⟨A, c, lo, hi, e, hc, hr', Nat.le_trans hh hg.size, fun g hg' => ?_⟩; rcases hb with hb | hb
 ·exact hs g (hb.symm.trans hg')
 ·rw [hb] at hg'; injection hg' with hg'; exact Or.inr (by omega)
theorem own_block (h : Own w base e v l) : ∀ g, v.ownBlock = some g → g < w.heap.size := fun g hg => (h.lt g hg).2
end
end
end Go.Fk
set_option linter.unusedSectionVars false
set_option linter.unusedSimpArgs false
set_option linter.unusedVariables false
namespace Go.Fk
open Go Go.RowKit
section
variable {P : Program} {N : Nat} {Q : Exit → Fr → World → Prop} {f : Fr} {w : World} {l : List Oper}
def drawOkP (N : Nat) (l : List Oper) (X : List Nat) : Bool := drawOkI N l && decide ((l.filterMap (·.dst)).Nodup) && (l.all fun o => o.dst.isSome && o.guard.isNone) && (X.all fun x => decide (x < l.length))
theorem W.drawP {id : Nat} (X : List Nat) (V : Nat → Value) (Φ : (Nat → Bool) → (Nat → Value) → World → Prop) (hm : P.follows .mixedOrders = true) (hok : drawOkP N l X = true)
    (h0 : ∀ s w', Ext w w' → Φ (fun _ => false) s w')
    (hcongr : ∀ Ls Ls' s s' w', (∀ x ∈ X, Ls' x = Ls x) → (∀ x ∈ X, s' x = s x) → Φ Ls s w' → Φ Ls' s' w')
    (hval : ∀ i o, l[i]? = some o → inCh X i = false → ∀ f' w', Ext w w' → (∀ j, outside l j = true → f' j = f j) → (∀ j, inCh X j = false → waits o j = true → slotF l.toArray f' j = V j) → (∀ j d, dstAt l j = some d → waitsAt l j i = true → f' d = f d) → (execOp (evalF f') o).run P w' = .ok (.value (V i)) w')
    (hspec : ∀ i o, l[i]? = some o → inCh X i = true → ∀ Ls f' w', Ext w w' → (∀ j, outside l j = true → f' j = f j) → (∀ j, inCh X j = false → waits o j = true → slotF l.toArray f' j = V j) → (∀ j, waits o j = true → Ls j = true) → Ls i = false →
      (∀ j k, Ls j = true → waitsAt l j k = true → Ls k = true) → Φ Ls (slotF l.toArray f') w' → OpS P o f' w' fun v w'' => Ext w w'' ∧ Φ (setL Ls i) (fun j => bif Nat.beq j i then v else slotF l.toArray f' j) w'')
    (hfin : ∀ f' w', Ext w w' → (∀ j, outside l j = true → f' j = f j) → (∀ i, i < l.length → inCh X i = false → slotF l.toArray f' i = V i) → Φ (fun _ => true) (slotF l.toArray f') w' → Q .normal f' w') :
    W P N (.region id l.toArray true) Q f w := by
  unfold drawOkP at hok
  simp only [Bool.and_eq_true, decide_eq_true_eq] at hok
  obtain ⟨⟨⟨hok0, hnd⟩, hpl⟩, hX⟩ := hok
  refine W.drawI hm hok0 (fun Ls f' w' => Ext w w' ∧ (∀ j, outside l j = true → f' j = f j) ∧ (∀ j k, Ls j = true → waitsAt l j k = true → Ls k = true) ∧ (∀ i, i < l.length → inCh X i = false → Ls i = true → slotF l.toArray f' i = V i) ∧ (∀ j d, dstAt l j = some d → Ls j = false → f' d = f d) ∧ Φ Ls (slotF l.toArray f') w') ?_ ?_ ?_
  · exact ⟨Ext.draw w, fun _ _ => rfl, fun _ _ h => by simp at h, fun _ _ _ h => by simp at h, fun _ _ _ _ => rfl, h0 _ _ (Ext.draw w)⟩
  · intro Ls i o f' w' ho hi hw ⟨hg, hout, hcl, hv, hlt, hΦ⟩
    have hil : i < l.length := (List.getElem?_eq_some_iff.1 ho).1
    have hop := List.all_eq_true.1 hpl o (List.mem_of_getElem? ho)
    rw [Bool.and_eq_true] at hop
    have hwl : ∀ j, waits o j = true → Ls j = true := fun j hj => by
      obtain ⟨e, he, hb, rfl⟩ := of_waits hj
      exact hw e he hb
    have hwv : ∀ j, inCh X j = false → waits o j = true → slotF l.toArray f' j = V j := fun j hj hwj => by
      by_cases hjl : j < l.length
      · exact hv _ hjl hj (hwl j hwj)
      · obtain ⟨e, he, hb, rfl⟩ := of_waits hwj
        unfold drawOkI at hok0
        simp only [Bool.and_eq_true] at hok0
        have h1 := List.all_eq_true.1 hok0.1 (o, i) (by rw [List.mem_zipIdx_iff_getElem?]; exact ho)
        have h2 := List.all_eq_true.1 h1 e (by simpa using he)
        rw [hb] at h2
        simp at h2
        omega
    have hmono : ∀ j, Ls j = true → setL Ls i j = true := fun j hj => by
      by_cases hji : j = i
      · subst hji; exact setL_same _ _
      · rw [setL_ne _ hji]; exact hj
    have hcl2 : ∀ j k, setL Ls i j = true → waitsAt l j k = true → setL Ls i k = true := by
      intro j k hj hjk
      by_cases hii : j = i
      · subst hii
        unfold waitsAt at hjk
        rw [ho] at hjk
        exact hmono _ (hwl k hjk)
      · rw [setL_ne _ hii] at hj
        exact hmono _ (hcl j k hj hjk)
    have hwant : Region.wanted o (yieldF l.toArray f') = true := by
      have := hop.2
      rw [Option.isNone_iff_eq_none] at this
      rw [Region.wanted, this]
    refine ⟨fun _ => ?_, fun hn => by rw [hwant] at hn; cases hn⟩
    have hself : ∀ v, slotF l.toArray (updo f' o.dst v) i = v := fun v => by rw [slotF_self ho, if_pos hop.1]
    have hslots : ∀ v, slotF l.toArray (updo f' o.dst v) = fun j => bif Nat.beq j i then v else slotF l.toArray f' j := fun v => by
      funext j
      by_cases hji : j = i
      · subst hji; rw [hself]; simp
      · rw [slotF_updo hnd ho _ _ hji]
        have : Nat.beq j i = false := by
          cases hb : Nat.beq j i with
          | false => rfl
          | true => exact absurd (Nat.eq_of_beq_eq_true hb) hji
        simp [this]
    have hvals : ∀ v, (inCh X i = false → v = V i) → ∀ k, k < l.length → inCh X k = false → setL Ls i k = true → slotF l.toArray (updo f' o.dst v) k = V k := fun v hvv k hk hc hs => by
      by_cases hki : k = i
      · subst hki; rw [hself]; exact hvv hc
      · rw [setL_ne _ hki] at hs
        rw [slotF_updo hnd ho _ _ hki]
        exact hv k hk hc hs
    have hlate : ∀ j d, dstAt l j = some d → waitsAt l j i = true → f' d = f d := fun j d hd hj => by
      refine hlt j d hd ?_
      cases hLj : Ls j with
      | false => rfl
      | true => rw [hcl j i hLj hj] at hi; cases hi
    have hlt2 : ∀ v j d, dstAt l j = some d → setL Ls i j = false → updo f' o.dst v d = f d := fun v j d hd hj => by
      have hji : j ≠ i := fun e => by rw [e, setL_same] at hj; cases hj
      rw [setL_ne _ hji] at hj
      rw [← hlt j d hd hj]
      obtain ⟨oj, hoj, hdj⟩ : ∃ oj, l[j]? = some oj ∧ oj.dst = some d := by
        unfold dstAt at hd
        cases hlj : l[j]? with
        | none => rw [hlj] at hd; cases hd
        | some oj => rw [hlj] at hd; exact ⟨oj, rfl, hd⟩
      have h1 := slotF_updo hnd ho f' v hji
      unfold slotF at h1
      rw [show l.toArray[j]? = some oj by simpa using hoj] at h1
      simp only [Option.bind_some, hdj] at h1
      exact h1
    cases hc : inCh X i with
    | false =>
      refine OpS.val (hval i o ho hc f' w' hg hout hwv hlate) ⟨hg, fun j hj => (outside_updo ho hj).trans (hout j hj), hcl2, hvals _ (fun _ => rfl), hlt2 _, ?_⟩
      rw [hslots]
      refine hcongr Ls _ _ _ _ (fun x hx => ?_) (fun x hx => ?_) hΦ
      · refine setL_ne _ fun e => ?_
        rw [← e, inCh_iff.2 hx] at hc; cases hc
      · have : Nat.beq x i = false := by
          cases hb : Nat.beq x i with
          | false => rfl
          | true => rw [← Nat.eq_of_beq_eq_true hb, inCh_iff.2 hx] at hc; cases hc
        simp [this]
    | true =>
      refine (hspec i o ho hc Ls f' w' hg hout hwv hwl hi hcl hΦ).mono fun v w'' ⟨e1, e2⟩ => ⟨e1, fun j hj => (outside_updo ho hj).trans (hout j hj), hcl2, hvals _ (fun h => by rw [hc] at h; cases h), hlt2 _, ?_⟩
      rw [hslots]; exact e2
  · intro Ls f' w' hall ⟨hg, hout, hcl, hv, _, hΦ⟩
    refine hfin f' w' hg hout (fun i hi hc => hv i hi hc (hall i hi)) (hcongr Ls _ _ _ _ (fun x hx => ?_) (fun _ _ => rfl) hΦ)
    have := List.all_eq_true.1 hX x hx
    exact (hall x (by simpa using this)).symm
section
variable {α : Type} [Enc α] {n : Nat} {w' w'' : World} {u v v' : Value} {k : List α} {e : TypeId} {base : Nat}
theorem Rd.top {lo hi : Nat} {A : Option Addr} (h : Rd w lo hi A k) : Rd w lo w.heap.size A k := ⟨h.1, fun h0 => by
  obtain ⟨ad, e, h1, h2, hc⟩ := h.2 h0
  refine ⟨ad, e, h1, ?_, hc⟩
  have hx : k[0]? = some k[0] := List.getElem?_eq_getElem h0
  have hl := Enc.len (k[0])
  have hp := Enc.pos (α := α)
  have hz : (Enc.cells k[0])[0]? = some (Enc.cells k[0])[0] := List.getElem?_eq_getElem (by omega)
  have hcell := hc 0 k[0] hx 0 _ hz
  have hlt := World.block_lt_of_cell? w _ hcell
  rwa [add_block, add_block] at hlt⟩
theorem SlR.aside_nil (h : SlR w u k) : SlA w (.slice none 0 0) u k := by
 obtain ⟨A, c, lo, hi, e, hc, hr⟩ := h; exact ⟨A, c, lo, _, e, hc, hr.top, Nat.le_refl _, fun g hg => by cases hg⟩
end
theorem op_appendN2 {α : Type} [Enc α] {o : Oper} {f : Fr} {t e : TypeId} {x y : Operand} {base : Nat} {v : Value} {l l2 : List α} {bytes : Nat} {A : Option Addr} {c lo hi : Nat} (ho : o.op = .call { callee := .builtin .append, args := #[x, y], argTypes := #[t, t] }) (hx : evalF f x = v) (hy : evalF f y = .slice A l2.length c)
    (T : TySl P t e α) (hzz : ((P.info? e).bind (·.zero)).map (·.cells.size) = some (Enc.size α)) (hby : (P.info? e).map (·.bytes) = some bytes) (ho' : Own w base e v l) (hR : Rd w lo hi A l2) (hn : (l.length + l2.length) * bytes ≤ 140737488355328) (hb0 : 0 < bytes) (hbase : base ≤ w.heap.size) :
    OpS P o f w fun v' w' => Own w' base e v' (l ++ l2) ∧ w.grownBy w' v.ownBlock ∧ (v'.ownBlock = v.ownBlock ∨ v'.ownBlock = some w.heap.size) := by
  obtain ⟨z, hz, hzs⟩ := Option.map_eq_some_iff.1 hzz
  have hs := T.elem.size
  cases hi : P.info? e with
  | none => rw [hi] at hs; cases hs
  | some i =>
    rw [hi] at hs hz hby
    simp only [Option.map_some, Option.some.injEq, Option.bind_some] at hs hz hby
    have hle : l.length + l2.length ≤ 140737488355328 := Nat.le_trans (Nat.le_mul_of_pos_right _ hb0) hn
    cases A with
    | none =>
      have hl2 : l2 = [] := by
        rcases Nat.eq_zero_or_pos l2.length with h | h
        · exact List.eq_nil_of_length_eq_zero h
        · obtain ⟨ad, e, _⟩ := hR.2 h; cases e
      subst hl2
      obtain ⟨B, c2, hv, hR2, hc2⟩ := ho'.form
      rw [List.append_nil]
      refine OpS.val (v := v) (w' := w) ?_ ⟨ho', ⟨rfl, rfl, rfl, Nat.le_refl _, fun _ _ _ => rfl⟩, Or.inl rfl⟩
      unfold execOp
      simp only [ho, resolve, invoke, builtin, Sem.run_bind, Sem.run_pure, Result.andThen_ok, List.map_toArray, List.map_cons, List.map_nil, hx, hy, hv]
      have hne : ¬ l.length > c2 := by omega
      cases B with
      | none => simp [Builtin.append_, run_underlying T.under, T.elem.sizeOf, Builtin.lenOf, Builtin.firstCells, hc2]
      | some b => simp [Builtin.append_, run_underlying T.under, T.elem.sizeOf, Builtin.lenOf, Builtin.firstCells, hc2, storeCells]
    | some ad =>
      obtain ⟨v', w', hr, h1, h2, _, h4⟩ := run_append_own_at (P := P) w base t o.type e i z (Enc.size α) bytes T.under hi hz hs hby hzs Enc.pos v l.length (l.flatMap Enc.cells) ho' ad l2.length c (l2.flatMap Enc.cells) (by
          have : ∀ l : List α, (l.flatMap Enc.cells).length = l.length * Enc.size α := by
            intro l
            induction l with
            | nil => simp
            | cons y l ih => rw [List.flatMap_cons, List.length_append, ih, Enc.len, List.length_cons, Nat.succ_mul]; omega
          exact this l2) (by
          intro j u hu
          obtain ⟨k, x, i, h1, h2, rfl⟩ := flat_at l2 j u hu
          have hlt : k < l2.length := (List.getElem?_eq_some_iff.1 h1).1
          obtain ⟨ad', e, _, _, hc⟩ := hR.2 (by omega)
          cases e
          rw [← add_add]
          exact hc k x h1 i u h2) (by
          intro u hu
          obtain ⟨x, hx, hu⟩ := List.mem_flatMap.1 hu
          exact Enc.one x u hu) (by unfold maxLen; omega) hn hbase
      refine OpS.val (v := v') (w' := w') ?_ ⟨?_, h2, h4⟩
      · unfold execOp
        simp only [ho, resolve, invoke, builtin, Sem.run_bind, Sem.run_pure, Result.andThen_ok, List.map_toArray, List.map_cons, List.map_nil, hx, hy, hr]
      · unfold Own
        rw [List.length_append, List.flatMap_append]
        exact h1
theorem op_slice_lV {α : Type} [Enc α] {o : Oper} {f : Fr} {t e : TypeId} {x i : Operand} {A : Option Addr} {c k : Nat} {l : List α} {ki : IntKind} (T : TySl P t e α) (ho : o.op = .slice t x (some i) none none) (hx : evalF f x = .slice A l.length c) (hi : evalF f i = .int ki (k : Int)) (hk : k ≤ l.length) :
    (execOp (evalF f) o).run P w = .ok (.value (.slice (if c = k then A else A.map (·.add (k * Enc.size α))) (l.drop k).length (c - k))) w := by
  rw [List.length_drop]; exact op_slice_l T ho hx hi hk
theorem op_slice_hV {α : Type} [Enc α] {o : Oper} {f : Fr} {t e : TypeId} {x i : Operand} {A : Option Addr} {c k : Nat} {l : List α} {ki : IntKind} (T : TySl P t e α) (ho : o.op = .slice t x none (some i) none) (hx : evalF f x = .slice A l.length c) (hi : evalF f i = .int ki (k : Int)) (hk : k ≤ l.length) (hc : l.length ≤ c) :
    (execOp (evalF f) o).run P w = .ok (.value (.slice A (l.take k).length c)) w := by
  rw [List.length_take, Nat.min_eq_left hk]; exact op_slice_h T ho hx hi (Nat.le_trans hk hc)
theorem op_slice1N {α : Type} [Enc α] {o : Oper} {f : Fr} {t e : TypeId} {x : Operand} {a : α} (ho : o.op = .buildSlice t 1 #[(0, x)]) (hx : evalF f x = Enc.val a) (T : TySl P t e α) (hzz : ((P.info? e).bind (·.zero)).map (·.cells.size) = some (Enc.size α)) (hs : Enc.size α ≤ 16777216) :
    OpS P o f w fun u w' => SlN w.heap.size w' u [a] ∧ Ext w w' :=
  (op_slice1 ho hx T hzz hs).mono fun _ _ ⟨b, e, hb, hB, hx⟩ => ⟨⟨_, _, e, Nat.le_refl _, ⟨by simp, fun _ => ⟨_, rfl, hb, hB.lt, fun k x hk => by
    have hk0 : k = 0 := by have := (List.getElem?_eq_some_iff.1 hk).1; simpa using this
    subst hk0
    simp at hk
    subst hk
    have : (⟨b, 0, none⟩ : Addr).add (0 * Enc.size α) = ⟨b, 0, none⟩ := by unfold Addr.add; split <;> simp_all
    rw [this]; exact hB.cells⟩⟩⟩, hx⟩
theorem inCh5 {a b c d e i : Nat} (h : inCh [a, b, c, d, e] i = true) : i = a ∨ i = b ∨ i = c ∨ i = d ∨ i = e := by
 have := inCh_iff.1 h; simpa using this
/-- x, then a datum, then y, as a new slice -/
theorem W.drawIns {α : Type} [Enc α] {id : Nat} {a3 a9 a10 a14 a15 : Nat} {o3 o9 o10 o14 o15 : Oper} (V : List Value) {e : TypeId} {l1 l2 l3 : List α} {a : α} (hm : P.follows .mixedOrders = true) (hok : drawOkP N l [a3, a9, a10, a14, a15] = true)
    (hd : (decide ([a3, a9, a10, a14, a15].Nodup) && (waitsAt l a10 a3 && waitsAt l a10 a9 && waitsAt l a14 a10 && waitsAt l a15 a14)) = true)
    (e3 : l[a3]? = some o3) (e9 : l[a9]? = some o9) (e10 : l[a10]? = some o10) (e14 : l[a14]? = some o14) (e15 : l[a15]? = some o15)
    (hval : VObls [a3, a9, a10, a14, a15] (fun i o => ∀ f' w', Ext w w' → (∀ j, outside l j = true → f' j = f j) → (∀ j, inCh [a3, a9, a10, a14, a15] j = false → waits o j = true → slotF l.toArray f' j = vOf V j) → (∀ j d, dstAt l j = some d → waitsAt l j i = true → f' d = f d) → (execOp (evalF f') o).run P w' = .ok (.value (vOf V i)) w') 0 l)
    (h3 : ∀ f' w', Ext w w' → (∀ j, outside l j = true → f' j = f j) → (∀ j, inCh [a3, a9, a10, a14, a15] j = false → waits o3 j = true → slotF l.toArray f' j = vOf V j) → OpS P o3 f' w' fun v w'' => Own w'' w.heap.size e v l1 ∧ w'.grownBy w'' none ∧ (v.ownBlock = (Value.slice none 0 0).ownBlock ∨ v.ownBlock = some w'.heap.size))
    (h9 : ∀ f' w', Ext w w' → (∀ j, outside l j = true → f' j = f j) → (∀ j, inCh [a3, a9, a10, a14, a15] j = false → waits o9 j = true → slotF l.toArray f' j = vOf V j) → OpS P o9 f' w' fun u w'' => SlN w'.heap.size w'' u [a] ∧ Ext w' w'')
    (h10 : ∀ f' w', Ext w w' → (∀ j, outside l j = true → f' j = f j) → Own w' w.heap.size e (slotF l.toArray f' a3) l1 → SlR w' (slotF l.toArray f' a9) [a] → OpS P o10 f' w' fun v w'' => Own w'' w.heap.size e v l2 ∧ w'.grownBy w'' (slotF l.toArray f' a3).ownBlock)
    (h14 : ∀ f' w', Ext w w' → (∀ j, outside l j = true → f' j = f j) → (∀ j, inCh [a3, a9, a10, a14, a15] j = false → waits o14 j = true → slotF l.toArray f' j = vOf V j) → Own w' w.heap.size e (slotF l.toArray f' a10) l2 → OpS P o14 f' w' fun v w'' => Own w'' w.heap.size e v l3 ∧ w'.grownBy w'' (slotF l.toArray f' a10).ownBlock)
    (h15 : ∀ f' w', (execOp (evalF f') o15).run P w' = .ok (.value (slotF l.toArray f' a14)) w')
    (hfin : ∀ f' w', Ext w w' → (∀ j, outside l j = true → f' j = f j) → (∀ i, i < l.length → inCh [a3, a9, a10, a14, a15] i = false → slotF l.toArray f' i = vOf V i) → Own w' w.heap.size e (slotF l.toArray f' a15) l3 → Q .normal f' w') :
    W P N (.region id l.toArray true) Q f w := by
  simp only [Bool.and_eq_true, decide_eq_true_eq] at hd
  obtain ⟨hnd, ⟨⟨w1, w2⟩, w3⟩, w4⟩ := hd
  simp only [List.nodup_cons, List.mem_cons, List.not_mem_nil, or_false, not_or] at hnd
  obtain ⟨⟨n1, n2, n3, n4⟩, ⟨n5, n6, n7⟩, ⟨n8, n9⟩, n10, _⟩ := hnd
  refine W.drawP [a3, a9, a10, a14, a15] (vOf V) (fun Ls s w' => (Ls a3 = true → Ls a10 = false → Own w' w.heap.size e (s a3) l1) ∧ (Ls a9 = true → Ls a10 = false → SlR w' (s a9) [a]) ∧ (Ls a3 = true → Ls a9 = true → Ls a10 = false → SlA w' (s a3) (s a9) [a]) ∧
    (Ls a10 = true → Ls a14 = false → Own w' w.heap.size e (s a10) l2) ∧ (Ls a14 = true → Own w' w.heap.size e (s a14) l3) ∧ (Ls a15 = true → s a15 = s a14)) hm hok ?_ ?_ ?_ ?_ ?_
  · intro s w' _
    exact ⟨fun h => (by cases h), fun h => (by cases h), fun h => (by cases h), fun h => (by cases h), fun h => (by cases h), fun h => (by cases h)⟩
  · intro Ls Ls' s s' w' h1 h2 h
    simp only [List.mem_cons, List.not_mem_nil, or_false, forall_eq_or_imp, forall_eq] at h1 h2
    obtain ⟨g1, g2, g3, g4, g5⟩ := h1
    obtain ⟨k1, k2, k3, k4, k5⟩ := h2
    simp only [g1, g2, g3, g4, g5, k1, k2, k3, k4, k5]
    exact h
  · intro i o ho hc f' w' hg hout hd hl
    have := VObls.get (i := 0) (k := i) hval ho (by rw [Nat.zero_add]; exact hc)
    rw [Nat.zero_add] at this
    exact this f' w' hg hout hd hl
  · intro i o ho hc Ls f' w' hg hout hwv hwl hi hcl ⟨p1, p2, p3, p4, p5, p6⟩
    have ne : ∀ {x y : Nat}, ¬ x = y → setL Ls y x = Ls x := fun h => setL_ne _ h
    have nb : ∀ {x y : Nat}, ¬ x = y → Nat.beq x y = false := fun {x y} h => by
      cases hb : Nat.beq x y with
      | false => rfl
      | true => exact absurd (Nat.eq_of_beq_eq_true hb) h
    have up : ∀ j k, waitsAt l j k = true → Ls k = false → Ls j = false := fun j k h1 h2 => by
      cases hj : Ls j with
      | false => rfl
      | true => rw [hcl j k hj h1] at h2; cases h2
    rcases inCh5 hc with rfl | rfl | rfl | rfl | rfl
    · rw [e3] at ho; cases ho
      have q10 := up _ _ w1 hi
      have q14 := up _ _ w3 q10
      have q15 := up _ _ w4 q14
      refine (h3 f' w' hg hout hwv).mono fun v w'' ⟨r1, r2, r3⟩ => ?_
      have hx := ext_of_grown r2
      refine ⟨hg.trans hx, fun _ _ => by simpa using r1, fun h9' _ => ?_, fun _ h9' _ => ?_, fun h => ?_, fun h => ?_, fun h => ?_⟩
      · rw [ne (Ne.symm n1)] at h9'
        simp only [nb (Ne.symm n1), cond_false]
        exact (p2 h9' q10).ext hx
      · rw [ne (Ne.symm n1)] at h9'
        simp only [nb (Ne.symm n1), cond_false, Nat.beq_refl, cond_true]
        exact (p2 h9' q10).aside_nil.app r2 r3
      · rw [ne (Ne.symm n2), q10] at h; cases h
      · rw [ne (Ne.symm n3), q14] at h; cases h
      · rw [ne (Ne.symm n4), q15] at h; cases h
    · rw [e9] at ho; cases ho
      have q10 := up _ _ w2 hi
      have q14 := up _ _ w3 q10
      have q15 := up _ _ w4 q14
      refine (h9 f' w' hg hout hwv).mono fun v w'' ⟨r1, hx⟩ => ?_
      refine ⟨hg.trans hx, fun h3' _ => ?_, fun _ _ => by simpa using r1.slr, fun h3' _ _ => ?_, fun h => ?_, fun h => ?_, fun h => ?_⟩
      · rw [ne n1] at h3'
        simp only [nb n1, cond_false]
        exact (p1 h3' q10).ext hx
      · rw [ne n1] at h3'
        simp only [nb n1, cond_false, Nat.beq_refl, cond_true]
        exact r1.sla (own_block (p1 h3' q10))
      · rw [ne (Ne.symm n5), q10] at h; cases h
      · rw [ne (Ne.symm n6), q14] at h; cases h
      · rw [ne (Ne.symm n7), q15] at h; cases h
    · rw [e10] at ho; cases ho
      have q14 := up _ _ w3 hi
      have q15 := up _ _ w4 q14
      have y3 : Ls a3 = true := hwl a3 (by unfold waitsAt at w1; rw [e10] at w1; exact w1)
      have y9 : Ls a9 = true := hwl a9 (by unfold waitsAt at w2; rw [e10] at w2; exact w2)
      have hO := p1 y3 hi
      refine (h10 f' w' hg hout hO (p2 y9 hi)).mono fun v w'' ⟨r1, r2⟩ => ?_
      refine ⟨hg.own hO r2, fun _ h => ?_, fun _ h => ?_, fun _ _ h => ?_, fun _ _ => by simpa using r1, fun h => ?_, fun h => ?_⟩
      · rw [setL_same] at h; cases h
      · rw [setL_same] at h; cases h
      · rw [setL_same] at h; cases h
      · rw [ne (Ne.symm n8), q14] at h; cases h
      · rw [ne (Ne.symm n9), q15] at h; cases h
    · rw [e14] at ho; cases ho
      have q15 := up _ _ w4 hi
      have y10 : Ls a10 = true := hwl a10 (by unfold waitsAt at w3; rw [e14] at w3; exact w3)
      have hO := p4 y10 hi
      refine (h14 f' w' hg hout hwv hO).mono fun v w'' ⟨r1, r2⟩ => ?_
      refine ⟨hg.own hO r2, fun _ h => ?_, fun _ h => ?_, fun _ _ h => ?_, fun _ h => ?_, fun _ => by simpa using r1, fun h => ?_⟩
      · rw [ne n8, y10] at h; cases h
      · rw [ne n8, y10] at h; cases h
      · rw [ne n8, y10] at h; cases h
      · rw [setL_same] at h; cases h
      · rw [ne (Ne.symm n10), q15] at h; cases h
    · rw [e15] at ho; cases ho
      have y14 : Ls a14 = true := hwl a14 (by unfold waitsAt at w4; rw [e15] at w4; exact w4)
      have y10 : Ls a10 = true := hcl _ _ y14 w3
      refine OpS.val (h15 f' w') ⟨hg, fun _ h => ?_, fun _ h => ?_, fun _ _ h => ?_, fun _ h => ?_, fun _ => ?_, fun _ => ?_⟩
      · rw [ne n9, y10] at h; cases h
      · rw [ne n9, y10] at h; cases h
      · rw [ne n9, y10] at h; cases h
      · rw [ne n10, y14] at h; cases h
      · simp only [nb n10, cond_false]; exact p5 y14
      · simp [nb n10]
  · intro f' w' hg hout hv ⟨_, _, _, _, p5, p6⟩
    refine hfin f' w' hg hout hv ?_
    rw [p6 rfl]; exact p5 rfl
end
end Go.Fk
set_option linter.unusedSimpArgs false
set_option linter.unusedVariables false
namespace Go.Proofs.YtdknjfmjddlphaaGreat
open Go Go.Fk
set_option maxRecDepth 100000 in
set_option maxHeartbeats 4000000 in
theorem Sorted_step {A_l : Option Addr} {c_l lo_l hi_l : Nat} {l : List Vt} (IH : ∀ {A : Option Addr} {c lo hi : Nat} {l' : List Vt} {w : World}, Rd w lo hi A l' → l'.length ≤ c → l'.length < l.length → l'.length ≤ 1000000 → Gives Tryz.prog 60 #[.slice A l'.length c] w fun u w' => SlR w' u (sorted voteLess_f l' : List Vt) ∧ Ext w w') {w : World} (hR_l : Rd w lo_l hi_l A_l l) (hcap_l : l.length ≤ c_l) (hl : l.length ≤ 1000000) : Gives Tryz.prog 60 #[(.slice A_l l.length c_l)] w fun u w' => SlR w' u (sorted voteLess_f l : List Vt) ∧ Ext w w' := by
 have hE : Ext w w := Ext.refl w; have hlen_l := hR_l.len; refine gives_of_W Tryz.func60 rfl Tryz.ntmps60 rfl ?_; refine W.seq ?_; refine W.region (by rfl) ?_; refine L.val rfl (op_assign rfl rfl) ?_; refine L.nil ?_; refine thenF_nor ?_; refine W.seq ?_; refine W.region (by rfl) ?_; refine L.val (v := (.bool true)) rfl (op_assign rfl rfl) ?_; refine L.nil ?_; refine thenF_nor ?_; refine W.seq ?_; refine W.seq ?_; refine W.region (by rfl) ?_; refine L.val rfl (op_assign rfl rfl) ?_; refine L.nil ?_; refine thenF_nor ?_; refine W.block ?_; have S1_hR_l := hR_l; have S1_hE := hE; have hS1 : Ext w w := Ext.refl _; refine W.loopg (γ := Nat × Bool) (fun (g : Nat × Bool) (f : Fr) (ww : World) => (g.1 = 0 ∨ g.1 < l.length) ∧ (g.2 = false → 1 ≤ g.1) ∧ (g.2 = true → ∀ i, i < g.1 → i + 1 < l.length → voteLess_f l[i]! l[i + 1]! = true) ∧ f 0 = (.slice A_l l.length c_l) ∧ f 2 = (.slice none 0 0) ∧ f 4 = (.int .i64 ((g.1 : Nat) : Int)) ∧ f 3 = (.bool g.2) ∧ Ext w ww) (fun (g : Nat × Bool) => l.length - g.1) (0, true) ⟨(Or.inl rfl), (fun h => (by cases h)), (fun _ i hi => absurd hi (Nat.not_lt_zero _)), rfl, rfl, rfl, rfl, hS1⟩ ?_; rintro ⟨k, rd⟩ f2 w2 ⟨hk, hrf, hrd, s2_0, s2_2, s2_4, s2_3, hS1⟩; dsimp only at hk hrf hrd s2_0 s2_2 s2_4 s2_3 hS1; have hR_l := S1_hR_l.ext hS1; have hE := S1_hE.trans hS1; refine W.seq ?_; refine W.seq ?_; refine W.region (by rfl) ?_; refine L.val rfl (op_move rfl s2_4) ?_; refine L.val rfl (op_add (c := ((k + 1 : Nat) : Int)) rfl rfl rfl (by omega) (by omega)) ?_; refine L.val rfl (op_move rfl s2_0) ?_; refine L.val rfl (op_len rfl rfl ln25) ?_; refine L.val rfl (op_lss rfl rfl rfl) ?_; refine L.val rfl (op_move rfl rfl) ?_; refine L.guardv (v := (.bool rd)) (wanted_yes rfl rfl rfl) (fun hg => (op_move rfl s2_3)) ?_; refine L.val rfl (op_and rfl rfl rfl rfl) ?_; refine L.nil ?_; refine thenF_nor ?_; refine W.cond (t := (decide (((k + 1 : Nat) : Int) < (l.length : Int))) && rd) rfl (fun hc3 => ?_) (fun hc3 => ?_)
 ·have hp3 := hc3; simp only [Bool.and_eq_true, Bool.or_eq_true, Bool.and_eq_false_iff, Bool.or_eq_false_iff, Bool.not_eq_true', Bool.not_eq_false', decide_eq_true_eq, decide_eq_false_iff_not] at hp3; have hgo := hc3; refine W.skip ?_; refine thenF_nor ?_; refine W.seq ?_; refine W.block ?_; refine W.drawS [Sp.eq (.slice A_l l.length c_l), Sp.eq (.int .i64 ((k : Nat) : Int)), Sp.eq (.pointer (some ((adr A_l).add (k * 22)))), Sp.eq (Enc.val (l[k]! : Vt)), Sp.eq (.slice A_l l.length c_l), Sp.eq (.int .i64 ((k : Nat) : Int)), Sp.eq (.int .i64 ((k + 1 : Nat) : Int)), Sp.eq (.pointer (some ((adr A_l).add ((k + 1) * 22)))), Sp.eq (Enc.val (l[k + 1]! : Vt)), Sp.eq (.bool (rVtLess_f (l[k]!) (l[k + 1]!))), Sp.eq (.bool (rVtLess_f (l[k]!) (l[k + 1]!)))] mixed (by rfl) (Obls.cons ?_ (Obls.cons ?_ (Obls.cons ?_ (Obls.cons ?_ (Obls.cons ?_ (Obls.cons ?_ (Obls.cons ?_ (Obls.cons ?_ (Obls.cons ?_ (Obls.cons ?_ (Obls.cons ?_ Obls.nil))))))))))) ?_
  ·intro f5 w5 hx5 ho5 hd5; have d5_s0 : f5 0 = (.slice A_l l.length c_l) := (ho5 0 rfl).trans s2_0; exact D.val rfl (op_move rfl d5_s0)
  ·intro f6 w6 hx6 ho6 hd6; have d6_s4 : f6 4 = (.int .i64 ((k : Nat) : Int)) := (ho6 4 rfl).trans s2_4; exact D.val rfl (op_move rfl d6_s4)
  ·intro f7 w7 hx7 ho7 hd7; have d7_0 : f7 18 = (.slice A_l l.length c_l) := hd7 0 rfl; have d7_1 : f7 19 = (.int .i64 ((k : Nat) : Int)) := hd7 1 rfl; have hR_l := hR_l.ext hx7; skip; exact D.val rfl (op_index (k := k) rfl d7_0 d7_1 sl25 (hR_l.getA (get_bang (l := l) (k := k) (by omega))).1 rfl (by omega) rfl)
  ·intro f8 w8 hx8 ho8 hd8; have d8_2 : f8 20 = (.pointer (some ((adr A_l).add (k * 22)))) := hd8 2 rfl; have hR_l := hR_l.ext hx8; skip; exact D.val rfl (op_load (v := (l[k]! : Vt)) rfl d8_2 ty47 (hR_l.getA (get_bang (l := l) (k := k) (by omega))).2)
  ·intro f9 w9 hx9 ho9 hd9; have d9_s0 : f9 0 = (.slice A_l l.length c_l) := (ho9 0 rfl).trans s2_0; exact D.val rfl (op_move rfl d9_s0)
  ·intro f10 w10 hx10 ho10 hd10; have d10_s4 : f10 4 = (.int .i64 ((k : Nat) : Int)) := (ho10 4 rfl).trans s2_4; exact D.val rfl (op_move rfl d10_s4)
  ·intro f11 w11 hx11 ho11 hd11; have d11_5 : f11 23 = (.int .i64 ((k : Nat) : Int)) := hd11 5 rfl; skip; exact D.val rfl (op_add (c := ((k + 1 : Nat) : Int)) rfl d11_5 rfl (by omega) (by omega))
  ·intro f12 w12 hx12 ho12 hd12; have d12_4 : f12 22 = (.slice A_l l.length c_l) := hd12 4 rfl; have d12_6 : f12 24 = (.int .i64 ((k + 1 : Nat) : Int)) := hd12 6 rfl; have hR_l := hR_l.ext hx12; skip; exact D.val rfl (op_index (k := k + 1) rfl d12_4 d12_6 sl25 (hR_l.getA (get_bang (l := l) (k := k + 1) (by omega))).1 rfl (by omega) rfl)
  ·intro f13 w13 hx13 ho13 hd13; have d13_7 : f13 25 = (.pointer (some ((adr A_l).add ((k + 1) * 22)))) := hd13 7 rfl; have hR_l := hR_l.ext hx13; skip; exact D.val rfl (op_load (v := (l[k + 1]! : Vt)) rfl d13_7 ty47 (hR_l.getA (get_bang (l := l) (k := k + 1) (by omega))).2)
  ·intro f14 w14 hx14 ho14 hd14; have d14_3 : f14 21 = (Enc.val (l[k]! : Vt)) := hd14 3 rfl; have d14_8 : f14 26 = (Enc.val (l[k + 1]! : Vt)) := hd14 8 rfl; exact D.call (R := (Sp.eq (.bool (rVtLess_f (l[k]!) (l[k + 1]!)))).p) rfl (OpS.call (op_call rfl (argsC d14_3 (argsC d14_8 argsN)) Tryz.func99 rfl rfl) rVtLess_ok)
  ·intro f15 w15 hx15 ho15 hd15; have d15_9 : f15 27 = (.bool (rVtLess_f (l[k]!) (l[k + 1]!))) := hd15 9 rfl; exact D.val rfl (op_assign rfl d15_9)
  intro f16 w16 hx16 ho16 hr16; have s0 : f16 0 = (.slice A_l l.length c_l) := (ho16 0 rfl).trans s2_0; have s2 : f16 2 = (.slice none 0 0) := (ho16 2 rfl).trans s2_2; have s4 : f16 4 = (.int .i64 ((k : Nat) : Int)) := (ho16 4 rfl).trans s2_4; have s3 : f16 3 = (.bool (rVtLess_f (l[k]!) (l[k + 1]!))) := hr16 10 (by decide); have hE := hE.trans hx16; have hS1 := hS1.trans hx16; refine blockF_nor ?_; refine thenF_nor ?_; refine W.region (by rfl) ?_; refine L.val rfl (op_move rfl s4) ?_; refine L.val rfl (op_add (c := ((k + 1 : Nat) : Int)) rfl rfl rfl (by omega) (by omega)) ?_; refine L.val rfl (op_assign rfl rfl) ?_; refine L.nil ?_; refine thenF_nor ?_; exact ⟨(k + 1, rVtLess_f (l[k]!) (l[k + 1]!)), ⟨(Or.inr (by have h0 := hgo; simp only [Bool.and_eq_true, decide_eq_true_eq] at h0; omega)), (fun _ => Nat.succ_le_succ (Nat.zero_le _)), (ready_go hrd hgo), s0, s2, rfl, s3, hS1⟩, (by have h0 := hgo; simp only [Bool.and_eq_true, decide_eq_true_eq] at h0; dsimp only; omega)⟩
 ·have hp3 := hc3; simp only [Bool.and_eq_true, Bool.or_eq_true, Bool.and_eq_false_iff, Bool.or_eq_false_iff, Bool.not_eq_true', Bool.not_eq_false', decide_eq_true_eq, decide_eq_false_iff_not] at hp3; have hstop := hc3; refine W.exit ?_; refine thenF_exit ?_; refine thenF_exit ?_; refine blockF_hit ?_; refine thenF_nor ?_; refine W.seq ?_; refine W.seq ?_; refine W.region (by rfl) ?_; refine L.val rfl (op_move rfl s2_3) ?_; refine L.nil ?_; refine thenF_nor ?_; refine W.cond (t := rd) rfl (fun hc17 => ?_) (fun hc17 => ?_)
  ·have hp17 := hc17; have hre := hc17; have hkl : l.length ≤ k + 1 := by have h0 := hstop; rw [hre] at h0; simp only [Bool.and_true, decide_eq_false_iff_not] at h0; omega
   have hres : l = sorted voteLess_f l := sorted_ready (fun i hi => hrd hre i (by omega) hi); refine W.seq ?_; have S18_hE := hE; have hS18 : Ext w2 w2 := Ext.refl _; refine W.region (by rfl) ?_; refine L.val rfl (op_move rfl s2_0) ?_; refine L.step rfl (op_appendN (l2 := l) rfl rfl rfl sl25 zs47 bt47 (Fk.Own.nil _ _ _ : Fk.Own _ _ 47 _ ([] : List Vt)) hR_l (by simp only [List.length_append, List.length_take, List.length_cons, List.length_nil] at *; omega) (by decide) hS18.size) ?_; rintro v19 w19 ⟨hO19, hg19⟩; have hS18 := hS18.own (Fk.Own.nil _ _ _ : Fk.Own _ _ 47 _ ([] : List Vt)) hg19; have hE := S18_hE.trans hS18; refine L.val rfl (op_assign rfl rfl) ?_; refine L.nil ?_; refine thenF_nor ?_; refine W.ret ?_; refine thenF_ret ?_; exact end_ret1 (v := v19) rfl rfl ⟨(by rw [← hres]; exact hO19.slr), hE⟩
  ·have hp17 := hc17; have hnr := hc17; have hk1 := hrf hnr; have hl2 : 2 ≤ l.length := by omega
   refine W.skip ?_; refine thenF_nor ?_; refine W.seq ?_; refine W.drawS [Sp.eq (.slice A_l l.length c_l), Sp.eq (.slice A_l l.length c_l), Sp.eq (.int .i64 (l.length : Int)), Sp.eq (.int .i64 ((l.length / 2 : Nat) : Int)), Sp.slr ((l.take (l.length / 2)) : List Vt), Sp.slr (sorted voteLess_f (l.take (l.length / 2)) : List Vt), Sp.eq (.slice A_l l.length c_l), Sp.eq (.slice A_l l.length c_l), Sp.eq (.int .i64 (l.length : Int)), Sp.eq (.int .i64 ((l.length / 2 : Nat) : Int)), Sp.slr ((l.drop (l.length / 2)) : List Vt), Sp.slr (sorted voteLess_f (l.drop (l.length / 2)) : List Vt), Sp.slr (sorted voteLess_f (l.take (l.length / 2)) : List Vt), Sp.slr (sorted voteLess_f (l.drop (l.length / 2)) : List Vt)] mixed (by rfl) (Obls.cons ?_ (Obls.cons ?_ (Obls.cons ?_ (Obls.cons ?_ (Obls.cons ?_ (Obls.cons ?_ (Obls.cons ?_ (Obls.cons ?_ (Obls.cons ?_ (Obls.cons ?_ (Obls.cons ?_ (Obls.cons ?_ (Obls.cons ?_ (Obls.cons ?_ Obls.nil)))))))))))))) ?_
   ·intro f21 w21 hx21 ho21 hd21; have d21_s0 : f21 0 = (.slice A_l l.length c_l) := (ho21 0 rfl).trans s2_0; exact D.val rfl (op_move rfl d21_s0)
   ·intro f22 w22 hx22 ho22 hd22; have d22_s0 : f22 0 = (.slice A_l l.length c_l) := (ho22 0 rfl).trans s2_0; exact D.val rfl (op_move rfl d22_s0)
   ·intro f23 w23 hx23 ho23 hd23; have d23_1 : f23 32 = (.slice A_l l.length c_l) := hd23 1 rfl; exact D.val rfl (op_len rfl d23_1 ln25)
   ·intro f24 w24 hx24 ho24 hd24; have d24_2 : f24 33 = (.int .i64 (l.length : Int)) := hd24 2 rfl; skip; exact D.val rfl (op_quoN (k := l.length) (d := 2) rfl d24_2 rfl (by omega) (by omega))
   ·intro f25 w25 hx25 ho25 hd25; have d25_0 : f25 31 = (.slice A_l l.length c_l) := hd25 0 rfl; have d25_3 : f25 34 = (.int .i64 ((l.length / 2 : Nat) : Int)) := hd25 3 rfl; have hR_l := hR_l.ext hx25; exact D.call (R := (Sp.slr ((l.take (l.length / 2)) : List Vt)).p) rfl (op_slr_h (k := l.length / 2) sl25 rfl d25_0 d25_3 (by omega) hcap_l hR_l)
   ·intro f26 w26 hx26 ho26 hd26; obtain ⟨A26_4, c26_4, lo26_4, hi26_4, e26_4, hcap26_4, hR26_4⟩ := hd26 4 rfl; have hlen26_4 := hR26_4.len; exact D.call (R := (Sp.slr (sorted voteLess_f (l.take (l.length / 2)) : List Vt)).p) rfl (OpS.call (op_call rfl (argsC e26_4 argsN) Tryz.func60 rfl rfl) (IH hR26_4 hcap26_4 (by simp only [List.length_take, List.length_drop]; omega) (by simp only [List.length_take, List.length_drop]; omega)))
   ·intro f27 w27 hx27 ho27 hd27; have d27_s0 : f27 0 = (.slice A_l l.length c_l) := (ho27 0 rfl).trans s2_0; exact D.val rfl (op_move rfl d27_s0)
   ·intro f28 w28 hx28 ho28 hd28; have d28_s0 : f28 0 = (.slice A_l l.length c_l) := (ho28 0 rfl).trans s2_0; exact D.val rfl (op_move rfl d28_s0)
   ·intro f29 w29 hx29 ho29 hd29; have d29_7 : f29 38 = (.slice A_l l.length c_l) := hd29 7 rfl; exact D.val rfl (op_len rfl d29_7 ln25)
   ·intro f30 w30 hx30 ho30 hd30; have d30_8 : f30 39 = (.int .i64 (l.length : Int)) := hd30 8 rfl; skip; exact D.val rfl (op_quoN (k := l.length) (d := 2) rfl d30_8 rfl (by omega) (by omega))
   ·intro f31 w31 hx31 ho31 hd31; have d31_6 : f31 37 = (.slice A_l l.length c_l) := hd31 6 rfl; have d31_9 : f31 40 = (.int .i64 ((l.length / 2 : Nat) : Int)) := hd31 9 rfl; have hR_l := hR_l.ext hx31; exact D.call (R := (Sp.slr ((l.drop (l.length / 2)) : List Vt)).p) rfl (op_slr_l (k := l.length / 2) sl25 rfl d31_6 d31_9 (by omega) hcap_l hR_l)
   ·intro f32 w32 hx32 ho32 hd32; obtain ⟨A32_10, c32_10, lo32_10, hi32_10, e32_10, hcap32_10, hR32_10⟩ := hd32 10 rfl; have hlen32_10 := hR32_10.len; exact D.call (R := (Sp.slr (sorted voteLess_f (l.drop (l.length / 2)) : List Vt)).p) rfl (OpS.call (op_call rfl (argsC e32_10 argsN) Tryz.func60 rfl rfl) (IH hR32_10 hcap32_10 (by simp only [List.length_take, List.length_drop]; omega) (by simp only [List.length_take, List.length_drop]; omega)))
   ·intro f33 w33 hx33 ho33 hd33; exact D.call (R := (Sp.slr (sorted voteLess_f (l.take (l.length / 2)) : List Vt)).p) rfl (OpS.val (op_assign rfl rfl) ⟨hd33 5 rfl, Ext.refl _⟩)
   ·intro f34 w34 hx34 ho34 hd34; exact D.call (R := (Sp.slr (sorted voteLess_f (l.drop (l.length / 2)) : List Vt)).p) rfl (OpS.val (op_assign rfl rfl) ⟨hd34 11 rfl, Ext.refl _⟩)
   intro f35 w35 hx35 ho35 hr35; have s2 : f35 2 = (.slice none 0 0) := (ho35 2 rfl).trans s2_2; obtain ⟨A35_12, c35_12, lo35_12, hi35_12, e35_12, hcap35_12, hR35_12⟩ := hr35 12 (by decide); have hlen35_12 := hR35_12.len; obtain ⟨A35_13, c35_13, lo35_13, hi35_13, e35_13, hcap35_13, hR35_13⟩ := hr35 13 (by decide); have hlen35_13 := hR35_13.len; have hE := hE.trans hx35; refine thenF_nor ?_; refine W.seq ?_; refine W.region (by rfl) ?_; refine L.val rfl (op_assign rfl rfl) ?_; refine L.nil ?_; refine thenF_nor ?_; refine W.seq ?_; refine W.block ?_; have S36_hR35_12 := hR35_12; have S36_hR35_13 := hR35_13; have S36_hE := hE; have hS36 : Ext w35 w35 := Ext.refl _; refine W.loopg (γ := List Vt × List Vt × List Vt) (fun (g : List Vt × List Vt × List Vt) (f : Fr) (ww : World) => Merging l g.1 g.2.1 g.2.2 ∧ g.1.length + g.2.1.length + g.2.2.length ≤ l.length ∧ f 2 = (.slice none 0 0) ∧ Fk.Own ww w35.heap.size 47 (f 7) g.1 ∧ SlR w35 (f 5) (g.2.1 : List Vt) ∧ SlR w35 (f 6) (g.2.2 : List Vt) ∧ Ext w35 ww) (fun (g : List Vt × List Vt × List Vt) => g.2.1.length + g.2.2.length) (([] : List Vt), (sorted voteLess_f (l.take (l.length / 2))), (sorted voteLess_f (l.drop (l.length / 2)))) ⟨(Merging.start _), (by have h1 := sorted_len' (l.take (l.length / 2)); have h2 := sorted_len' (l.drop (l.length / 2)); simp only [List.length_take, List.length_drop, List.length_nil] at *; omega), s2, (own_at (v := .slice none 0 0) rfl (Fk.Own.nil _ _ _)), (slr_at (v := (.slice A35_12 (sorted voteLess_f (l.take (l.length / 2))).length c35_12)) e35_12 ⟨_, _, _, _, rfl, hcap35_12, S36_hR35_12⟩), (slr_at (v := (.slice A35_13 (sorted voteLess_f (l.drop (l.length / 2))).length c35_13)) e35_13 ⟨_, _, _, _, rfl, hcap35_13, S36_hR35_13⟩), hS36⟩ ?_; rintro ⟨out, xa, xb⟩ f37 w37 ⟨hmg, hln, s37_2, hO37_7, hL37_5, hL37_6, hS36⟩; dsimp only at hmg hln s37_2 hO37_7 hL37_5 hL37_6 hS36; have hE := S36_hE.trans hS36; obtain ⟨v37_7, s37_7⟩ : ∃ v, f37 7 = v := ⟨_, rfl⟩; rw [s37_7] at hO37_7; obtain ⟨A37_5, c37_5, lo37_5, hi37_5, s37_5, hcap37_5, S36_hR37_5⟩ := hL37_5; have hR37_5 := S36_hR37_5.ext hS36; have hlen37_5 := hR37_5.len; obtain ⟨A37_6, c37_6, lo37_6, hi37_6, s37_6, hcap37_6, S36_hR37_6⟩ := hL37_6; have hR37_6 := S36_hR37_6.ext hS36; have hlen37_6 := hR37_6.len; refine W.seq ?_; refine W.seq ?_; refine W.region (by rfl) ?_; refine L.val rfl (op_move rfl s37_5) ?_; refine L.val rfl (op_len rfl rfl ln25) ?_; refine L.val rfl (op_gtr rfl rfl rfl) ?_; refine L.val rfl (op_move rfl rfl) ?_; refine L.guardv (v := (.slice A37_6 xb.length c37_6)) (wanted_no rfl rfl rfl) (fun hg => (op_move rfl s37_6)) ?_; refine L.guardv (v := (.int .i64 (xb.length : Int))) (wanted_no rfl rfl rfl) (fun hg => (op_len rfl ((show _ = vif _ (.slice A37_6 xb.length c37_6) from rfl).trans (vif_t hg).symm) ln25)) ?_; refine L.guardv (v := (.bool (decide (0 < (xb.length : Int))))) (wanted_no rfl rfl rfl) (fun hg => (op_gtr rfl ((show _ = vif _ (.int .i64 (xb.length : Int)) from rfl).trans (vif_t hg).symm) rfl)) ?_; refine L.val rfl (op_or rfl rfl rfl rfl) ?_; refine L.nil ?_; refine thenF_nor ?_; refine W.cond (t := (decide (0 < (xa.length : Int))) || (decide (0 < (xb.length : Int)))) rfl (fun hc38 => ?_) (fun hc38 => ?_)
   ·have hp38 := hc38; simp only [Bool.and_eq_true, Bool.or_eq_true, Bool.and_eq_false_iff, Bool.or_eq_false_iff, Bool.not_eq_true', Bool.not_eq_false', decide_eq_true_eq, decide_eq_false_iff_not] at hp38; have h50 := hc38; refine W.skip ?_; refine thenF_nor ?_; refine W.block ?_; refine W.block ?_; refine W.seq ?_; refine W.drawS [Sp.eq (.slice A37_6 xb.length c37_6), Sp.eq (.int .i64 (xb.length : Int)), Sp.eq (.bool (decide ((xb.length : Int) = 0))), Sp.eq (.bool (decide ((xb.length : Int) = 0))), Sp.eq (vif (!(decide ((xb.length : Int) = 0))) (.slice A37_5 xa.length c37_5)), Sp.eq (vif (!(decide ((xb.length : Int) = 0))) (.int .i64 (xa.length : Int))), Sp.eq (vif (!(decide ((xb.length : Int) = 0))) (.bool (decide (0 < (xa.length : Int))))), Sp.eq (vif (!(decide ((xb.length : Int) = 0))) (.bool (decide (0 < (xa.length : Int))))), Sp.eq (vif ((!(decide ((xb.length : Int) = 0))) && ((decide (0 < (xa.length : Int))) == true)) (.slice A37_5 xa.length c37_5)), Sp.eq (vif ((!(decide ((xb.length : Int) = 0))) && ((decide (0 < (xa.length : Int))) == true)) (.pointer (some ((adr A37_5).add (0 * 22))))), Sp.eq (vif ((!(decide ((xb.length : Int) = 0))) && ((decide (0 < (xa.length : Int))) == true)) (Enc.val (xa[0]! : Vt))), Sp.eq (vif ((!(decide ((xb.length : Int) = 0))) && ((decide (0 < (xa.length : Int))) == true)) (.slice A37_6 xb.length c37_6)), Sp.eq (vif ((!(decide ((xb.length : Int) = 0))) && ((decide (0 < (xa.length : Int))) == true)) (.pointer (some ((adr A37_6).add (0 * 22))))), Sp.eq (vif ((!(decide ((xb.length : Int) = 0))) && ((decide (0 < (xa.length : Int))) == true)) (Enc.val (xb[0]! : Vt))), Sp.eq (vif ((!(decide ((xb.length : Int) = 0))) && ((decide (0 < (xa.length : Int))) == true)) (.bool (rVtLess_f (xa[0]!) (xb[0]!)))), Sp.eq (vif (!(decide ((xb.length : Int) = 0))) (.bool ((decide (0 < (xa.length : Int))) && (rVtLess_f (xa[0]!) (xb[0]!))))), Sp.eq (.bool ((decide ((xb.length : Int) = 0)) || ((decide (0 < (xa.length : Int))) && (rVtLess_f (xa[0]!) (xb[0]!))))), Sp.eq (.bool ((decide ((xb.length : Int) = 0)) || ((decide (0 < (xa.length : Int))) && (rVtLess_f (xa[0]!) (xb[0]!)))))] mixed (by rfl) (Obls.cons ?_ (Obls.cons ?_ (Obls.cons ?_ (Obls.cons ?_ (Obls.cons ?_ (Obls.cons ?_ (Obls.cons ?_ (Obls.cons ?_ (Obls.cons ?_ (Obls.cons ?_ (Obls.cons ?_ (Obls.cons ?_ (Obls.cons ?_ (Obls.cons ?_ (Obls.cons ?_ (Obls.cons ?_ (Obls.cons ?_ (Obls.cons ?_ Obls.nil)))))))))))))))))) ?_
    ·intro f40 w40 hx40 ho40 hd40; have d40_s6 : f40 6 = (.slice A37_6 xb.length c37_6) := (ho40 6 rfl).trans s37_6; exact D.val rfl (op_move rfl d40_s6)
    ·intro f41 w41 hx41 ho41 hd41; have d41_0 : f41 54 = (.slice A37_6 xb.length c37_6) := hd41 0 rfl; exact D.val rfl (op_len rfl d41_0 ln25)
    ·intro f42 w42 hx42 ho42 hd42; have d42_1 : f42 55 = (.int .i64 (xb.length : Int)) := hd42 1 rfl; exact D.val rfl (op_eql rfl d42_1 rfl)
    ·intro f43 w43 hx43 ho43 hd43; have d43_2 : f43 56 = (.bool (decide ((xb.length : Int) = 0))) := hd43 2 rfl; exact D.val rfl (op_move rfl d43_2)
    ·intro f44 w44 hx44 ho44 hd44; have d44_s5 : f44 5 = (.slice A37_5 xa.length c37_5) := (ho44 5 rfl).trans s37_5; have d44_3 : f44 57 = (.bool (decide ((xb.length : Int) = 0))) := hd44 3 rfl; exact D.guardv (wanted_no rfl rfl d44_3) (fun hg => (op_move rfl d44_s5))
    ·intro f45 w45 hx45 ho45 hd45; have d45_3 : f45 57 = (.bool (decide ((xb.length : Int) = 0))) := hd45 3 rfl; have d45_4 : f45 58 = (vif (!(decide ((xb.length : Int) = 0))) (.slice A37_5 xa.length c37_5)) := hd45 4 rfl; exact D.guardv (wanted_no rfl rfl d45_3) (fun hg => (op_len rfl ((show _ = vif _ (.slice A37_5 xa.length c37_5) from d45_4).trans (vif_t hg).symm) ln25))
    ·intro f46 w46 hx46 ho46 hd46; have d46_3 : f46 57 = (.bool (decide ((xb.length : Int) = 0))) := hd46 3 rfl; have d46_5 : f46 59 = (vif (!(decide ((xb.length : Int) = 0))) (.int .i64 (xa.length : Int))) := hd46 5 rfl; exact D.guardv (wanted_no rfl rfl d46_3) (fun hg => (op_gtr rfl ((show _ = vif _ (.int .i64 (xa.length : Int)) from d46_5).trans (vif_t hg).symm) rfl))
    ·intro f47 w47 hx47 ho47 hd47; have d47_3 : f47 57 = (.bool (decide ((xb.length : Int) = 0))) := hd47 3 rfl; have d47_6 : f47 60 = (vif (!(decide ((xb.length : Int) = 0))) (.bool (decide (0 < (xa.length : Int))))) := hd47 6 rfl; exact D.guardv (wanted_no rfl rfl d47_3) (fun hg => (op_move rfl ((show _ = vif _ (.bool (decide (0 < (xa.length : Int)))) from d47_6).trans (vif_t hg).symm)))
    ·intro f48 w48 hx48 ho48 hd48; have d48_s5 : f48 5 = (.slice A37_5 xa.length c37_5) := (ho48 5 rfl).trans s37_5; have d48_7 : f48 61 = (vif (!(decide ((xb.length : Int) = 0))) (.bool (decide (0 < (xa.length : Int))))) := hd48 7 rfl; exact D.guardv (wanted_vif rfl rfl d48_7) (fun hg => (op_move rfl d48_s5))
    ·intro f49 w49 hx49 ho49 hd49; have d49_7 : f49 61 = (vif (!(decide ((xb.length : Int) = 0))) (.bool (decide (0 < (xa.length : Int))))) := hd49 7 rfl; have d49_8 : f49 62 = (vif ((!(decide ((xb.length : Int) = 0))) && ((decide (0 < (xa.length : Int))) == true)) (.slice A37_5 xa.length c37_5)) := hd49 8 rfl; have hR37_5 := hR37_5.ext hx49; exact D.guardv (wanted_vif rfl rfl d49_7) (fun hg => by have hp := hg; (try simp only [Bool.and_eq_true, Bool.or_eq_true, Bool.not_eq_true', decide_eq_true_eq, decide_eq_false_iff_not, bne_iff_ne, beq_iff_eq] at hp); skip; exact (op_index (k := 0) rfl ((show _ = vif _ (.slice A37_5 xa.length c37_5) from d49_8).trans (vif_t hg).symm) rfl sl25 (hR37_5.getA (get_bang (l := xa) (k := 0) (by omega))).1 rfl (by omega) rfl))
    ·intro f50 w50 hx50 ho50 hd50; have d50_7 : f50 61 = (vif (!(decide ((xb.length : Int) = 0))) (.bool (decide (0 < (xa.length : Int))))) := hd50 7 rfl; have d50_9 : f50 63 = (vif ((!(decide ((xb.length : Int) = 0))) && ((decide (0 < (xa.length : Int))) == true)) (.pointer (some ((adr A37_5).add (0 * 22))))) := hd50 9 rfl; have hR37_5 := hR37_5.ext hx50; exact D.guardv (wanted_vif rfl rfl d50_7) (fun hg => by have hp := hg; (try simp only [Bool.and_eq_true, Bool.or_eq_true, Bool.not_eq_true', decide_eq_true_eq, decide_eq_false_iff_not, bne_iff_ne, beq_iff_eq] at hp); skip; exact (op_load (v := (xa[0]! : Vt)) rfl ((show _ = vif _ (.pointer (some ((adr A37_5).add (0 * 22)))) from d50_9).trans (vif_t hg).symm) ty47 (hR37_5.getA (get_bang (l := xa) (k := 0) (by omega))).2))
    ·intro f51 w51 hx51 ho51 hd51; have d51_s6 : f51 6 = (.slice A37_6 xb.length c37_6) := (ho51 6 rfl).trans s37_6; have d51_7 : f51 61 = (vif (!(decide ((xb.length : Int) = 0))) (.bool (decide (0 < (xa.length : Int))))) := hd51 7 rfl; exact D.guardv (wanted_vif rfl rfl d51_7) (fun hg => (op_move rfl d51_s6))
    ·intro f52 w52 hx52 ho52 hd52; have d52_7 : f52 61 = (vif (!(decide ((xb.length : Int) = 0))) (.bool (decide (0 < (xa.length : Int))))) := hd52 7 rfl; have d52_11 : f52 65 = (vif ((!(decide ((xb.length : Int) = 0))) && ((decide (0 < (xa.length : Int))) == true)) (.slice A37_6 xb.length c37_6)) := hd52 11 rfl; have hR37_6 := hR37_6.ext hx52; exact D.guardv (wanted_vif rfl rfl d52_7) (fun hg => by have hp := hg; (try simp only [Bool.and_eq_true, Bool.or_eq_true, Bool.not_eq_true', decide_eq_true_eq, decide_eq_false_iff_not, bne_iff_ne, beq_iff_eq] at hp); skip; exact (op_index (k := 0) rfl ((show _ = vif _ (.slice A37_6 xb.length c37_6) from d52_11).trans (vif_t hg).symm) rfl sl25 (hR37_6.getA (get_bang (l := xb) (k := 0) (by omega))).1 rfl (by omega) rfl))
    ·intro f53 w53 hx53 ho53 hd53; have d53_7 : f53 61 = (vif (!(decide ((xb.length : Int) = 0))) (.bool (decide (0 < (xa.length : Int))))) := hd53 7 rfl; have d53_12 : f53 66 = (vif ((!(decide ((xb.length : Int) = 0))) && ((decide (0 < (xa.length : Int))) == true)) (.pointer (some ((adr A37_6).add (0 * 22))))) := hd53 12 rfl; have hR37_6 := hR37_6.ext hx53; exact D.guardv (wanted_vif rfl rfl d53_7) (fun hg => by have hp := hg; (try simp only [Bool.and_eq_true, Bool.or_eq_true, Bool.not_eq_true', decide_eq_true_eq, decide_eq_false_iff_not, bne_iff_ne, beq_iff_eq] at hp); skip; exact (op_load (v := (xb[0]! : Vt)) rfl ((show _ = vif _ (.pointer (some ((adr A37_6).add (0 * 22)))) from d53_12).trans (vif_t hg).symm) ty47 (hR37_6.getA (get_bang (l := xb) (k := 0) (by omega))).2))
    ·intro f54 w54 hx54 ho54 hd54; have d54_7 : f54 61 = (vif (!(decide ((xb.length : Int) = 0))) (.bool (decide (0 < (xa.length : Int))))) := hd54 7 rfl; have d54_10 : f54 64 = (vif ((!(decide ((xb.length : Int) = 0))) && ((decide (0 < (xa.length : Int))) == true)) (Enc.val (xa[0]! : Vt))) := hd54 10 rfl; have d54_13 : f54 67 = (vif ((!(decide ((xb.length : Int) = 0))) && ((decide (0 < (xa.length : Int))) == true)) (Enc.val (xb[0]! : Vt))) := hd54 13 rfl; exact D.guardc (wanted_vif rfl rfl d54_7) (fun hg => (OpS.call (op_call rfl (argsC ((show _ = vif _ (Enc.val (xa[0]! : Vt)) from d54_10).trans (vif_t hg).symm) (argsC ((show _ = vif _ (Enc.val (xb[0]! : Vt)) from d54_13).trans (vif_t hg).symm) argsN)) Tryz.func99 rfl rfl) rVtLess_ok))
    ·intro f55 w55 hx55 ho55 hd55; have d55_3 : f55 57 = (.bool (decide ((xb.length : Int) = 0))) := hd55 3 rfl; have d55_7 : f55 61 = (vif (!(decide ((xb.length : Int) = 0))) (.bool (decide (0 < (xa.length : Int))))) := hd55 7 rfl; have d55_14 : f55 68 = (vif ((!(decide ((xb.length : Int) = 0))) && ((decide (0 < (xa.length : Int))) == true)) (.bool (rVtLess_f (xa[0]!) (xb[0]!)))) := hd55 14 rfl; exact D.guardv (wanted_no rfl rfl d55_3) (fun hg => (op_and rfl ((show _ = vif _ (.bool (decide (0 < (xa.length : Int)))) from d55_7).trans (vif_t hg).symm) ((show _ = vif _ _ from d55_14).trans (vif_and hg)) rfl))
    ·intro f56 w56 hx56 ho56 hd56; have d56_3 : f56 57 = (.bool (decide ((xb.length : Int) = 0))) := hd56 3 rfl; have d56_15 : f56 69 = (vif (!(decide ((xb.length : Int) = 0))) (.bool ((decide (0 < (xa.length : Int))) && (rVtLess_f (xa[0]!) (xb[0]!))))) := hd56 15 rfl; exact D.val rfl (op_or rfl d56_3 rfl d56_15)
    ·intro f57 w57 hx57 ho57 hd57; have d57_16 : f57 70 = (.bool ((decide ((xb.length : Int) = 0)) || ((decide (0 < (xa.length : Int))) && (rVtLess_f (xa[0]!) (xb[0]!))))) := hd57 16 rfl; exact D.val rfl (op_assign rfl d57_16)
    intro f58 w58 hx58 ho58 hr58; have s2 : f58 2 = (.slice none 0 0) := (ho58 2 rfl).trans s37_2; have s5 : f58 5 = (.slice A37_5 xa.length c37_5) := (ho58 5 rfl).trans s37_5; have s6 : f58 6 = (.slice A37_6 xb.length c37_6) := (ho58 6 rfl).trans s37_6; have s7 : f58 7 = v37_7 := (ho58 7 rfl).trans s37_7; have s53 : f58 53 = (.bool ((decide ((xb.length : Int) = 0)) || ((decide (0 < (xa.length : Int))) && (rVtLess_f (xa[0]!) (xb[0]!))))) := hr58 17 (by decide); have hE := hE.trans hx58; have hS36 := hS36.trans hx58; have hO37_7 := hO37_7.ext hx58; have hR37_5 := hR37_5.ext hx58; have hR37_6 := hR37_6.ext hx58; refine thenF_nor ?_; refine W.cond (t := (decide ((xb.length : Int) = 0)) || ((decide (0 < (xa.length : Int))) && (rVtLess_f (xa[0]!) (xb[0]!)))) s53 (fun hc59 => ?_) (fun hc59 => ?_)
    ·have hp59 := hc59; simp only [Bool.and_eq_true, Bool.or_eq_true, Bool.and_eq_false_iff, Bool.or_eq_false_iff, Bool.not_eq_true', Bool.not_eq_false', decide_eq_true_eq, decide_eq_false_iff_not] at hp59; have hml := merge_l h50 hc59; refine W.seq ?_; refine W.region (by rfl) ?_; refine L.val rfl (op_move rfl s7) ?_; refine L.val rfl (op_move rfl s5) ?_; refine L.val rfl (op_index (k := 0) rfl rfl rfl sl25 (hR37_5.getA (get_bang (l := xa) (k := 0) (by omega))).1 rfl (by omega) rfl) ?_; refine L.val rfl (op_load (v := (xa[0]! : Vt)) rfl rfl ty47 (hR37_5.getA (get_bang (l := xa) (k := 0) (by omega))).2) ?_; refine L.step rfl (op_slice1 (a := (xa[0]! : Vt)) rfl rfl sl25 zs47 (by decide)) ?_; rintro _ w60 ⟨b60, rfl, hb60, hB60, hx60⟩; have hE := hE.trans hx60; have hS36 := hS36.trans hx60; have hO37_7 := hO37_7.ext hx60; refine L.step rfl (op_append (a := (xa[0]! : Vt)) (ad := ⟨b60, 0, none⟩) rfl rfl rfl sl25 zs47 bt47 hO37_7 hB60.cells (by omega) (by decide) hS36.size) ?_; rintro v61 w61 ⟨hO61, hg61⟩; have hS36 := hS36.own hO37_7 hg61; have hR37_5 := S36_hR37_5.ext hS36; have hE := S36_hE.trans hS36; refine L.val rfl (op_assign rfl rfl) ?_; refine L.nil ?_; refine thenF_nor ?_; refine W.region (by rfl) ?_; refine L.val rfl (op_move rfl s5) ?_; refine L.step rfl (op_slr_l2 (k := 1) sl25 rfl rfl rfl (by omega) hcap37_5 hR37_5 S36_hR37_5) ?_; rintro _ w62 ⟨⟨A62, c62, rfl, hcap62, hR62, S36_hR62⟩, hx62⟩; have hE := hE.trans hx62; have hS36 := hS36.trans hx62; have hO61 := hO61.ext hx62; have hlen62 := hR62.len; refine L.val rfl (op_assign rfl rfl) ?_; refine L.nil ?_; refine blockF_nor ?_; refine blockF_nor ?_; refine thenF_nor ?_; exact ⟨((out ++ [xa[0]!]), (xa.drop 1), xb), ⟨(hmg.left hml.1 hml.2), (by simp only [List.length_append, List.length_drop, List.length_cons, List.length_nil]; omega), s2, (own_at (v := v61) rfl hO61), (slr_at (v := (.slice A62 (xa.drop 1).length c62)) rfl ⟨_, _, _, _, rfl, hcap62, S36_hR62⟩), (slr_at (v := (.slice A37_6 xb.length c37_6)) s6 ⟨_, _, _, _, rfl, hcap37_6, S36_hR37_6⟩), hS36⟩, (by simp only [List.length_drop]; omega)⟩
    ·have hp59 := hc59; simp only [Bool.and_eq_true, Bool.or_eq_true, Bool.and_eq_false_iff, Bool.or_eq_false_iff, Bool.not_eq_true', Bool.not_eq_false', decide_eq_true_eq, decide_eq_false_iff_not] at hp59; have h53 := hc59; refine W.seq ?_; refine W.drawS [Sp.eq (.slice A37_5 xa.length c37_5), Sp.eq (.int .i64 (xa.length : Int)), Sp.eq (.bool (decide ((xa.length : Int) = 0))), Sp.eq (.bool (decide ((xa.length : Int) = 0))), Sp.eq (vif (!(decide ((xa.length : Int) = 0))) (.slice A37_6 xb.length c37_6)), Sp.eq (vif (!(decide ((xa.length : Int) = 0))) (.pointer (some ((adr A37_6).add (0 * 22))))), Sp.eq (vif (!(decide ((xa.length : Int) = 0))) (Enc.val (xb[0]! : Vt))), Sp.eq (vif (!(decide ((xa.length : Int) = 0))) (.slice A37_5 xa.length c37_5)), Sp.eq (vif (!(decide ((xa.length : Int) = 0))) (.pointer (some ((adr A37_5).add (0 * 22))))), Sp.eq (vif (!(decide ((xa.length : Int) = 0))) (Enc.val (xa[0]! : Vt))), Sp.eq (vif (!(decide ((xa.length : Int) = 0))) (.bool (rVtLess_f (xb[0]!) (xa[0]!)))), Sp.eq (.bool ((decide ((xa.length : Int) = 0)) || (rVtLess_f (xb[0]!) (xa[0]!)))), Sp.eq (.bool ((decide ((xa.length : Int) = 0)) || (rVtLess_f (xb[0]!) (xa[0]!))))] mixed (by rfl) (Obls.cons ?_ (Obls.cons ?_ (Obls.cons ?_ (Obls.cons ?_ (Obls.cons ?_ (Obls.cons ?_ (Obls.cons ?_ (Obls.cons ?_ (Obls.cons ?_ (Obls.cons ?_ (Obls.cons ?_ (Obls.cons ?_ (Obls.cons ?_ Obls.nil))))))))))))) ?_
     ·intro f64 w64 hx64 ho64 hd64; have d64_s5 : f64 5 = (.slice A37_5 xa.length c37_5) := (ho64 5 rfl).trans s5; exact D.val rfl (op_move rfl d64_s5)
     ·intro f65 w65 hx65 ho65 hd65; have d65_0 : f65 80 = (.slice A37_5 xa.length c37_5) := hd65 0 rfl; exact D.val rfl (op_len rfl d65_0 ln25)
     ·intro f66 w66 hx66 ho66 hd66; have d66_1 : f66 81 = (.int .i64 (xa.length : Int)) := hd66 1 rfl; exact D.val rfl (op_eql rfl d66_1 rfl)
     ·intro f67 w67 hx67 ho67 hd67; have d67_2 : f67 82 = (.bool (decide ((xa.length : Int) = 0))) := hd67 2 rfl; exact D.val rfl (op_move rfl d67_2)
     ·intro f68 w68 hx68 ho68 hd68; have d68_s6 : f68 6 = (.slice A37_6 xb.length c37_6) := (ho68 6 rfl).trans s6; have d68_3 : f68 83 = (.bool (decide ((xa.length : Int) = 0))) := hd68 3 rfl; exact D.guardv (wanted_no rfl rfl d68_3) (fun hg => (op_move rfl d68_s6))
     ·intro f69 w69 hx69 ho69 hd69; have d69_3 : f69 83 = (.bool (decide ((xa.length : Int) = 0))) := hd69 3 rfl; have d69_4 : f69 84 = (vif (!(decide ((xa.length : Int) = 0))) (.slice A37_6 xb.length c37_6)) := hd69 4 rfl; have hR37_6 := hR37_6.ext hx69; exact D.guardv (wanted_no rfl rfl d69_3) (fun hg => by have hp := hg; (try simp only [Bool.and_eq_true, Bool.or_eq_true, Bool.not_eq_true', decide_eq_true_eq, decide_eq_false_iff_not, bne_iff_ne, beq_iff_eq] at hp); skip; exact (op_index (k := 0) rfl ((show _ = vif _ (.slice A37_6 xb.length c37_6) from d69_4).trans (vif_t hg).symm) rfl sl25 (hR37_6.getA (get_bang (l := xb) (k := 0) (by omega))).1 rfl (by omega) rfl))
     ·intro f70 w70 hx70 ho70 hd70; have d70_3 : f70 83 = (.bool (decide ((xa.length : Int) = 0))) := hd70 3 rfl; have d70_5 : f70 85 = (vif (!(decide ((xa.length : Int) = 0))) (.pointer (some ((adr A37_6).add (0 * 22))))) := hd70 5 rfl; have hR37_6 := hR37_6.ext hx70; exact D.guardv (wanted_no rfl rfl d70_3) (fun hg => by have hp := hg; (try simp only [Bool.and_eq_true, Bool.or_eq_true, Bool.not_eq_true', decide_eq_true_eq, decide_eq_false_iff_not, bne_iff_ne, beq_iff_eq] at hp); skip; exact (op_load (v := (xb[0]! : Vt)) rfl ((show _ = vif _ (.pointer (some ((adr A37_6).add (0 * 22)))) from d70_5).trans (vif_t hg).symm) ty47 (hR37_6.getA (get_bang (l := xb) (k := 0) (by omega))).2))
     ·intro f71 w71 hx71 ho71 hd71; have d71_s5 : f71 5 = (.slice A37_5 xa.length c37_5) := (ho71 5 rfl).trans s5; have d71_3 : f71 83 = (.bool (decide ((xa.length : Int) = 0))) := hd71 3 rfl; exact D.guardv (wanted_no rfl rfl d71_3) (fun hg => (op_move rfl d71_s5))
     ·intro f72 w72 hx72 ho72 hd72; have d72_3 : f72 83 = (.bool (decide ((xa.length : Int) = 0))) := hd72 3 rfl; have d72_7 : f72 87 = (vif (!(decide ((xa.length : Int) = 0))) (.slice A37_5 xa.length c37_5)) := hd72 7 rfl; have hR37_5 := hR37_5.ext hx72; exact D.guardv (wanted_no rfl rfl d72_3) (fun hg => by have hp := hg; (try simp only [Bool.and_eq_true, Bool.or_eq_true, Bool.not_eq_true', decide_eq_true_eq, decide_eq_false_iff_not, bne_iff_ne, beq_iff_eq] at hp); skip; exact (op_index (k := 0) rfl ((show _ = vif _ (.slice A37_5 xa.length c37_5) from d72_7).trans (vif_t hg).symm) rfl sl25 (hR37_5.getA (get_bang (l := xa) (k := 0) (by omega))).1 rfl (by omega) rfl))
     ·intro f73 w73 hx73 ho73 hd73; have d73_3 : f73 83 = (.bool (decide ((xa.length : Int) = 0))) := hd73 3 rfl; have d73_8 : f73 88 = (vif (!(decide ((xa.length : Int) = 0))) (.pointer (some ((adr A37_5).add (0 * 22))))) := hd73 8 rfl; have hR37_5 := hR37_5.ext hx73; exact D.guardv (wanted_no rfl rfl d73_3) (fun hg => by have hp := hg; (try simp only [Bool.and_eq_true, Bool.or_eq_true, Bool.not_eq_true', decide_eq_true_eq, decide_eq_false_iff_not, bne_iff_ne, beq_iff_eq] at hp); skip; exact (op_load (v := (xa[0]! : Vt)) rfl ((show _ = vif _ (.pointer (some ((adr A37_5).add (0 * 22)))) from d73_8).trans (vif_t hg).symm) ty47 (hR37_5.getA (get_bang (l := xa) (k := 0) (by omega))).2))
     ·intro f74 w74 hx74 ho74 hd74; have d74_3 : f74 83 = (.bool (decide ((xa.length : Int) = 0))) := hd74 3 rfl; have d74_6 : f74 86 = (vif (!(decide ((xa.length : Int) = 0))) (Enc.val (xb[0]! : Vt))) := hd74 6 rfl; have d74_9 : f74 89 = (vif (!(decide ((xa.length : Int) = 0))) (Enc.val (xa[0]! : Vt))) := hd74 9 rfl; exact D.guardc (wanted_no rfl rfl d74_3) (fun hg => (OpS.call (op_call rfl (argsC ((show _ = vif _ (Enc.val (xb[0]! : Vt)) from d74_6).trans (vif_t hg).symm) (argsC ((show _ = vif _ (Enc.val (xa[0]! : Vt)) from d74_9).trans (vif_t hg).symm) argsN)) Tryz.func99 rfl rfl) rVtLess_ok))
     ·intro f75 w75 hx75 ho75 hd75; have d75_3 : f75 83 = (.bool (decide ((xa.length : Int) = 0))) := hd75 3 rfl; have d75_10 : f75 90 = (vif (!(decide ((xa.length : Int) = 0))) (.bool (rVtLess_f (xb[0]!) (xa[0]!)))) := hd75 10 rfl; exact D.val rfl (op_or rfl d75_3 rfl d75_10)
     ·intro f76 w76 hx76 ho76 hd76; have d76_11 : f76 91 = (.bool ((decide ((xa.length : Int) = 0)) || (rVtLess_f (xb[0]!) (xa[0]!)))) := hd76 11 rfl; exact D.val rfl (op_assign rfl d76_11)
     intro f77 w77 hx77 ho77 hr77; have s2 : f77 2 = (.slice none 0 0) := (ho77 2 rfl).trans s2; have s5 : f77 5 = (.slice A37_5 xa.length c37_5) := (ho77 5 rfl).trans s5; have s6 : f77 6 = (.slice A37_6 xb.length c37_6) := (ho77 6 rfl).trans s6; have s7 : f77 7 = v37_7 := (ho77 7 rfl).trans s7; have s79 : f77 79 = (.bool ((decide ((xa.length : Int) = 0)) || (rVtLess_f (xb[0]!) (xa[0]!)))) := hr77 12 (by decide); have hE := hE.trans hx77; have hS36 := hS36.trans hx77; have hO37_7 := hO37_7.ext hx77; have hR37_5 := hR37_5.ext hx77; have hR37_6 := hR37_6.ext hx77; refine thenF_nor ?_; refine W.cond (t := (decide ((xa.length : Int) = 0)) || (rVtLess_f (xb[0]!) (xa[0]!))) s79 (fun hc78 => ?_) (fun hc78 => ?_)
     ·have hp78 := hc78; simp only [Bool.and_eq_true, Bool.or_eq_true, Bool.and_eq_false_iff, Bool.or_eq_false_iff, Bool.not_eq_true', Bool.not_eq_false', decide_eq_true_eq, decide_eq_false_iff_not] at hp78; have hmr := merge_r h50 h53 hc78; refine W.seq ?_; refine W.region (by rfl) ?_; refine L.val rfl (op_move rfl s7) ?_; refine L.val rfl (op_move rfl s6) ?_; refine L.val rfl (op_index (k := 0) rfl rfl rfl sl25 (hR37_6.getA (get_bang (l := xb) (k := 0) (by omega))).1 rfl (by omega) rfl) ?_; refine L.val rfl (op_load (v := (xb[0]! : Vt)) rfl rfl ty47 (hR37_6.getA (get_bang (l := xb) (k := 0) (by omega))).2) ?_; refine L.step rfl (op_slice1 (a := (xb[0]! : Vt)) rfl rfl sl25 zs47 (by decide)) ?_; rintro _ w79 ⟨b79, rfl, hb79, hB79, hx79⟩; have hE := hE.trans hx79; have hS36 := hS36.trans hx79; have hO37_7 := hO37_7.ext hx79; refine L.step rfl (op_append (a := (xb[0]! : Vt)) (ad := ⟨b79, 0, none⟩) rfl rfl rfl sl25 zs47 bt47 hO37_7 hB79.cells (by omega) (by decide) hS36.size) ?_; rintro v80 w80 ⟨hO80, hg80⟩; have hS36 := hS36.own hO37_7 hg80; have hR37_6 := S36_hR37_6.ext hS36; have hE := S36_hE.trans hS36; refine L.val rfl (op_assign rfl rfl) ?_; refine L.nil ?_; refine thenF_nor ?_; refine W.region (by rfl) ?_; refine L.val rfl (op_move rfl s6) ?_; refine L.step rfl (op_slr_l2 (k := 1) sl25 rfl rfl rfl (by omega) hcap37_6 hR37_6 S36_hR37_6) ?_; rintro _ w81 ⟨⟨A81, c81, rfl, hcap81, hR81, S36_hR81⟩, hx81⟩; have hE := hE.trans hx81; have hS36 := hS36.trans hx81; have hO80 := hO80.ext hx81; have hlen81 := hR81.len; refine L.val rfl (op_assign rfl rfl) ?_; refine L.nil ?_; refine blockF_nor ?_; refine blockF_nor ?_; refine thenF_nor ?_; exact ⟨((out ++ [xb[0]!]), xa, (xb.drop 1)), ⟨(hmg.right hmr.1 hmr.2), (by simp only [List.length_append, List.length_drop, List.length_cons, List.length_nil]; omega), s2, (own_at (v := v80) rfl hO80), (slr_at (v := (.slice A37_5 xa.length c37_5)) s5 ⟨_, _, _, _, rfl, hcap37_5, S36_hR37_5⟩), (slr_at (v := (.slice A81 (xb.drop 1).length c81)) rfl ⟨_, _, _, _, rfl, hcap81, S36_hR81⟩), hS36⟩, (by simp only [List.length_drop]; omega)⟩
     ·have hp78 := hc78; simp only [Bool.and_eq_true, Bool.or_eq_true, Bool.and_eq_false_iff, Bool.or_eq_false_iff, Bool.not_eq_true', Bool.not_eq_false', decide_eq_true_eq, decide_eq_false_iff_not] at hp78; have hmb := merge_b h50 h53 hc78; refine W.region (by rfl) ?_; refine L.val rfl (op_move rfl s5) ?_; refine L.step rfl (op_slr_l2 (k := 1) sl25 rfl rfl rfl (by omega) hcap37_5 hR37_5 S36_hR37_5) ?_; rintro _ w82 ⟨⟨A82, c82, rfl, hcap82, hR82, S36_hR82⟩, hx82⟩; have hE := hE.trans hx82; have hS36 := hS36.trans hx82; have hO37_7 := hO37_7.ext hx82; have hlen82 := hR82.len; refine L.val rfl (op_assign rfl rfl) ?_; refine L.nil ?_; refine blockF_nor ?_; refine blockF_nor ?_; refine thenF_nor ?_; exact ⟨(out, (xa.drop 1), xb), ⟨(hmg.both hmb.1 hmb.2.1 hmb.2.2.1 hmb.2.2.2), (by simp only [List.length_append, List.length_drop, List.length_cons, List.length_nil]; omega), s2, (own_at (v := v37_7) s7 hO37_7), (slr_at (v := (.slice A82 (xa.drop 1).length c82)) rfl ⟨_, _, _, _, rfl, hcap82, S36_hR82⟩), (slr_at (v := (.slice A37_6 xb.length c37_6)) s6 ⟨_, _, _, _, rfl, hcap37_6, S36_hR37_6⟩), hS36⟩, (by simp only [List.length_drop]; omega)⟩
   ·have hp38 := hc38; simp only [Bool.and_eq_true, Bool.or_eq_true, Bool.and_eq_false_iff, Bool.or_eq_false_iff, Bool.not_eq_true', Bool.not_eq_false', decide_eq_true_eq, decide_eq_false_iff_not] at hp38; have h50 := hc38; have hmd := merge_end h50; have hdone := hmg.done hmd.1 hmd.2; refine W.exit ?_; refine thenF_exit ?_; refine thenF_exit ?_; refine blockF_hit ?_; refine thenF_nor ?_; refine W.seq ?_; obtain ⟨A83, c83, hv83, hR83, hcap83⟩ := (hO37_7).form; have hlen83 := hR83.len; refine W.region (by rfl) ?_; refine L.val rfl (op_move rfl ((show _ = v37_7 from s37_7).trans hv83)) ?_; refine L.val rfl (op_assign rfl rfl) ?_; refine L.nil ?_; refine thenF_nor ?_; refine W.ret ?_; exact end_ret1 (v := (.slice A83 out.length c83)) rfl rfl ⟨(by rw [← hdone]; exact (⟨_, _, _, _, rfl, hcap83, hR83⟩ : SlR _ _ _)), hE⟩
end Go.Proofs.YtdknjfmjddlphaaGreat
namespace Go.Proofs.YtdknjfmjddlphaaGreat
open Go Go.Fk
theorem Sorted_ok' : ∀ (n : Nat) {A : Option Addr} {c lo hi : Nat} {l : List Vt} {w : World}, l.length < n → Rd w lo hi A l → l.length ≤ c → l.length ≤ 1000000 → Gives Tryz.prog 60 #[.slice A l.length c] w fun u w' => SlR w' u (sorted voteLess_f l : List Vt) ∧ Ext w w'
  | 0, _, _, _, _, _, _, h, _, _, _ => absurd h (Nat.not_lt_zero _)
  | n + 1, _, _, _, _, _, _, h, hR, hc, hl => Sorted_step (fun hR' hc' h' hl' => Sorted_ok' n (by omega) hR' hc' hl') hR hc hl
theorem Sorted_ok {A : Option Addr} {c lo hi : Nat} {l : List Vt} {w : World} (hR : Rd w lo hi A l) (hc : l.length ≤ c) (hl : l.length ≤ 1000000) : Gives Tryz.prog 60 #[.slice A l.length c] w fun u w' => SlR w' u (sorted voteLess_f l : List Vt) ∧ Ext w w' := Sorted_ok' _ (Nat.lt_succ_self _) hR hc hl
end Go.Proofs.YtdknjfmjddlphaaGreat
