/-
  Contracts of functions of the program, each with its walk in the logic of frames. Printed by a program of this session (wip/gen) from the translation.
-/
import Derived.Test.YtdknjfmjddlphaaCert1
set_option linter.unusedSimpArgs false
set_option linter.unusedVariables false
namespace Go.Proofs.Ytdknjfmjddlphaa
open Go Go.Fk

set_option maxRecDepth 100000 in
theorem want_ok {q_s : Addr} {m_s : Int} {A_s : Option Addr} {c_s lo_s hi_s bw bd : Nat} {all : List Vt} {lw ld : List (Vt × Int)} {v : Vt}  {w : World} (hq_s : Cells w q_s [.int .i64 m_s, .slice A_s all.length c_s, .map (some bw), .map (some bd)]) (hR_s : Rd w lo_s hi_s A_s all) (hM_w : Mp w bw lw) (hM_d : Mp w bd ld) (hne_bd_bw : bd ≠ bw) : Gives Try.prog 96 #[(.pointer (some q_s)), (Enc.val (v : Vt))] w fun u w' => Mp w' bw (want_f ld lw v : List (Vt × Int)) ∧ w.grownBy w' (some bw) := by
  have hne_bw_bd := Ne.symm hne_bd_bw
  have hT0 : w.grownBy w (some bw) := grown_refl _ _
  have S0_hq_s := hq_s
  have S0_hR_s := hR_s
  have S0_hM_w := hM_w
  have S0_hM_d := hM_d
  have hlen_s := hR_s.len
  refine gives_of_W Try.func96 rfl Try.ntmps96 rfl ?_
  refine W.seq ?_
  refine W.region (by rfl) ?_
  refine L.step rfl (op_box (cs := (Enc.cells (v : Vt))) rfl rfl rfl) ?_
  rintro _ w1 ⟨b1, rfl, hb1, hB1, hx1⟩
  have hT0 := grown_ext hT0 hx1
  have hq_s := hq_s.ext hx1
  have hR_s := hR_s.ext hx1
  have hM_w := hM_w.ext hx1
  have hM_d := hM_d.ext hx1
  refine L.nil ?_
  refine thenF_nor ?_
  refine W.seq ?_
  refine W.drawS [Sp.eq (.pointer (some q_s)), Sp.eq (.pointer (some q_s)), Sp.eq (.pointer (some (q_s.add 3))), Sp.eq (.map (some bd)), Sp.eq (Enc.val (v : Vt)), Sp.eq (.int .i64 (mget ld v)), Sp.eq (.bool (decide ((mget ld v) = 0)))] mixed (by rfl) (Obls.cons ?_ (Obls.cons ?_ (Obls.cons ?_ (Obls.cons ?_ (Obls.cons ?_ (Obls.cons ?_ (Obls.cons ?_ Obls.nil))))))) ?_
  · intro f3 w3 hx3 ho3 hd3
    have d3_s0 : f3 0 = (.pointer (some q_s)) := ho3 0 rfl
    exact D.val rfl (op_move rfl d3_s0)
  · intro f4 w4 hx4 ho4 hd4
    have d4_0 : f4 4 = (.pointer (some q_s)) := hd4 0 rfl
    exact D.val rfl (op_nilCheck rfl d4_0)
  · intro f5 w5 hx5 ho5 hd5
    have d5_1 : f5 5 = (.pointer (some q_s)) := hd5 1 rfl
    exact D.val rfl (op_field rfl d5_1 fo89_3 rfl)
  · intro f6 w6 hx6 ho6 hd6
    have d6_2 : f6 6 = (.pointer (some (q_s.add 3))) := hd6 2 rfl
    have hq_s := hq_s.ext hx6
    have hR_s := hR_s.ext hx6
    have hM_w := hM_w.ext hx6
    have hM_d := hM_d.ext hx6
    have hB1 := hB1.ext hx6
    exact D.val rfl (op_load1 rfl d6_2 one87 (hq_s.one (n := 3) rfl))
  · intro f7 w7 hx7 ho7 hd7
    have d7_s3 : f7 3 = (.pointer (some ⟨b1, 0, none⟩)) := ho7 3 rfl
    have hq_s := hq_s.ext hx7
    have hR_s := hR_s.ext hx7
    have hM_w := hM_w.ext hx7
    have hM_d := hM_d.ext hx7
    have hB1 := hB1.ext hx7
    exact D.val rfl (op_load (v := (v : Vt)) rfl d7_s3 ty28 hB1.cells)
  · intro f8 w8 hx8 ho8 hd8
    have d8_3 : f8 7 = (.map (some bd)) := hd8 3 rfl
    have d8_4 : f8 8 = (Enc.val (v : Vt)) := hd8 4 rfl
    have hq_s := hq_s.ext hx8
    have hR_s := hR_s.ext hx8
    have hM_w := hM_w.ext hx8
    have hM_d := hM_d.ext hx8
    have hB1 := hB1.ext hx8
    exact D.val rfl (op_lookup (a := (v : Vt)) mp87 rfl d8_3 d8_4 hM_d)
  · intro f9 w9 hx9 ho9 hd9
    have d9_5 : f9 9 = (.int .i64 (mget ld v)) := hd9 5 rfl
    exact D.val rfl (op_eql rfl d9_5 rfl)
  intro f10 w10 hx10 ho10 hr10
  have s0 : f10 0 = (.pointer (some q_s)) := ho10 0 rfl
  have s1 : f10 1 = (Enc.val (v : Vt)) := ho10 1 rfl
  have s3 : f10 3 = (.pointer (some ⟨b1, 0, none⟩)) := ho10 3 rfl
  have s10 : f10 10 = (.bool (decide ((mget ld v) = 0))) := hr10 6 (by decide)
  have hT0 := grown_ext hT0 hx10
  have hq_s := hq_s.ext hx10
  have hR_s := hR_s.ext hx10
  have hM_w := hM_w.ext hx10
  have hM_d := hM_d.ext hx10
  have hB1 := hB1.ext hx10
  refine thenF_nor ?_
  refine W.cond (t := decide ((mget ld v) = 0)) s10 (fun hc11 => ?_) (fun hc11 => ?_)
  · have hp11 := hc11
    simp only [Bool.and_eq_true, Bool.or_eq_true, Bool.and_eq_false_iff, Bool.or_eq_false_iff, Bool.not_eq_true', Bool.not_eq_false', decide_eq_true_eq, decide_eq_false_iff_not] at hp11
    have hnc12 := hM_w.nc
    refine W.drawM (ld := 3) (es := 5) (vld := (.map (some bw))) (b := bw) (l := (lw : List (Vt × Int))) (l' := (mput lw (v : Vt) 1)) [(.pointer (some q_s)), (.pointer (some q_s)), (.pointer (some (q_s.add 2))), undef, (Enc.val (v : Vt)), undef] mixed (by rfl) hM_w ?_ rfl rfl rfl rfl rfl ?_ ?_ ?_
    · refine VObls.cons ?_ (VObls.cons ?_ (VObls.cons ?_ (VObls.cons (fun h => nomatch h) (VObls.cons ?_ (VObls.cons (fun h => nomatch h) (VObls.nil))))))
      · intro _ f13 w13 hg13 ho13 hd13
        have d13_s0 : f13 0 = (.pointer (some q_s)) := (ho13 0 rfl).trans s0
        exact ⟨rfl, (op_move rfl d13_s0), rfl⟩
      · intro _ f14 w14 hg14 ho14 hd14
        have d14_0 : f14 11 = (.pointer (some q_s)) := hd14 0 rfl rfl
        exact ⟨rfl, (op_nilCheck rfl d14_0), rfl⟩
      · intro _ f15 w15 hg15 ho15 hd15
        have d15_1 : f15 12 = (.pointer (some q_s)) := hd15 1 rfl rfl
        exact ⟨rfl, (op_field rfl d15_1 fo89_2 rfl), rfl⟩
      · intro _ f17 w17 hg17 ho17 hd17
        have d17_s3 : f17 3 = (.pointer (some ⟨b1, 0, none⟩)) := (ho17 3 rfl).trans s3
        have hq_s := hq_s.farM hnc12 hg17
        have hR_s := hR_s.farM hnc12 hg17
        have hB1 := hB1.farM hnc12 hg17
        exact ⟨rfl, (op_load (v := (v : Vt)) rfl d17_s3 ty28 hB1.cells), rfl⟩
    · intro f16 w16 hg16 ho16 hd16
      have d16_2 : f16 13 = (.pointer (some (q_s.add 2))) := hd16 2 rfl rfl
      have hq_s := hq_s.farM hnc12 hg16
      have hR_s := hR_s.farM hnc12 hg16
      have hB1 := hB1.farM hnc12 hg16
      exact (op_load1 rfl d16_2 one87 (hq_s.one (n := 2) rfl))
    · intro f18 w18 hg18 ho18 hd18 hv18 hMv18
      have d18_4 : f18 15 = (Enc.val (v : Vt)) := hd18 4 rfl rfl
      exact OpS.mono (op_mapUpdate (a := (v : Vt)) (v := 1) mp87 rfl hv18 d18_4 rfl hMv18) fun _ _ h => ⟨h.1, h.2.1⟩
    intro f19 w19 hg19 ho19 hr19 hM19
    have s0 : f19 0 = (.pointer (some q_s)) := (ho19 0 rfl).trans s0
    have s1 : f19 1 = (Enc.val (v : Vt)) := (ho19 1 rfl).trans s1
    have s3 : f19 3 = (.pointer (some ⟨b1, 0, none⟩)) := (ho19 3 rfl).trans s3
    have s10 : f19 10 = (.bool (decide ((mget ld v) = 0))) := (ho19 10 rfl).trans s10
    have hnc19 := hM_w.nc
    have hT0 := grown_trans hT0 hg19
    have hq_s := hq_s.farM hnc19 hg19
    have hR_s := hR_s.farM hnc19 hg19
    have hM_d := hM_d.farM hne_bd_bw hg19
    have hB1 := hB1.farM hnc19 hg19
    exact end_nor0 rfl ⟨(by unfold want_f; rw [hc11]; exact hM19), hT0⟩
  · have hp11 := hc11
    simp only [Bool.and_eq_true, Bool.or_eq_true, Bool.and_eq_false_iff, Bool.or_eq_false_iff, Bool.not_eq_true', Bool.not_eq_false', decide_eq_true_eq, decide_eq_false_iff_not] at hp11
    refine W.skip ?_
    exact end_nor0 rfl ⟨(by unfold want_f; rw [hc11]; exact hM_w), hT0⟩

set_option maxRecDepth 100000 in
theorem least_ok {q_s : Addr} {m_s : Int} {A_s : Option Addr} {c_s lo_s hi_s bw bd : Nat} {all : List Vt} {lw ld : List (Vt × Int)} {fv_p : Value} {p : Vt → Bool}  {w : World} (hq_s : Cells w q_s [.int .i64 m_s, .slice A_s all.length c_s, .map (some bw), .map (some bd)]) (hR_s : Rd w lo_s hi_s A_s all) (hM_w : Mp w bw lw) (hM_d : Mp w bd ld) (hne_bd_bw : bd ≠ bw) (hf_p : Fits Try.prog w fv_p p) : Gives Try.prog 70 #[(.pointer (some q_s)), fv_p] w fun u w' => u = (.tuple #[(Enc.val ((all.find? p).getD vt0)), (.bool ((all.find? p).isSome))]) ∧ Mp w' bw (wantO ld lw (all.find? p) : List (Vt × Int)) ∧ w.grownBy w' (some bw) := by
  have hne_bw_bd := Ne.symm hne_bd_bw
  have hT0 : w.grownBy w (some bw) := grown_refl _ _
  have S0_hq_s := hq_s
  have S0_hR_s := hR_s
  have S0_hM_w := hM_w
  have S0_hM_d := hM_d
  have S0_hf_p := hf_p
  have hlen_s := hR_s.len
  refine gives_of_W Try.func70 rfl Try.ntmps70 rfl ?_
  refine W.seq ?_
  refine W.region (by rfl) ?_
  have A1_hq_s := hq_s
  have A1_hR_s := hR_s
  have A1_hM_w := hM_w
  have A1_hM_d := hM_d
  have A1_hf_p := hf_p
  have A1_hT0 := hT0
  refine L.step rfl (op_alloc (z := Enc.val (default : Vt)) (cs := Enc.cells (default : Vt)) rfl (by kernel_rfl) rfl) ?_
  rintro _ w1 ⟨b1, rfl, hb1, hB1, hx1⟩
  have hbb1_hT0 := Nat.le_trans hT0.size hb1
  have hT0 := grown_ext hT0 hx1
  have hq_s := hq_s.ext hx1
  have hR_s := hR_s.ext hx1
  have hM_w := hM_w.ext hx1
  have hM_d := hM_d.ext hx1
  have hf_p := hf_p.ext hx1
  refine L.val (v := (.bool false)) rfl (op_assign rfl rfl) ?_
  refine L.nil ?_
  refine thenF_nor ?_
  refine W.seq ?_
  refine W.seq ?_
  refine W.region (by rfl) ?_
  refine L.val rfl (op_move rfl rfl) ?_
  refine L.val rfl (op_nilCheck rfl rfl) ?_
  refine L.val rfl (op_field rfl rfl fo89_1 rfl) ?_
  refine L.val rfl (op_load1 rfl rfl one25 (hq_s.one (n := 1) rfl)) ?_
  refine L.val rfl (op_len rfl rfl ln25) ?_
  refine L.val rfl (op_move rfl rfl) ?_
  refine L.nil ?_
  refine thenF_nor ?_
  refine W.block ?_
  have S2_hq_s := hq_s
  have S2_hR_s := hR_s
  have S2_hM_w := hM_w
  have S2_hM_d := hM_d
  have S2_hf_p := hf_p
  have S2_hB1 := hB1
  have S2_hT0 := hT0
  have hS2 : Ext w1 w1 := Ext.refl _
  refine W.loopg (γ := Nat) (fun (k : Nat) (f : Fr) (ww : World) => k ≤ all.length ∧ (all.drop k).find? p = all.find? p ∧ f 0 = (.pointer (some q_s)) ∧ f 1 = fv_p ∧ f 4 = (.pointer (some ⟨b1, 0, none⟩)) ∧ f 11 = (.slice A_s all.length c_s) ∧ f 12 = (.int .i64 (all.length : Int)) ∧ f 13 = (.int .i64 ((k : Nat) : Int)) ∧ Ext w1 ww) (fun (k : Nat) => all.length - k) 0 ⟨(by (try dsimp only); omega), rfl, rfl, rfl, rfl, rfl, rfl, rfl, hS2⟩ ?_
  rintro k f3 w3 ⟨hk, hfi, s3_0, s3_1, s3_4, s3_11, s3_12, s3_13, hS2⟩
  have hq_s := S2_hq_s.ext hS2
  have hR_s := S2_hR_s.ext hS2
  have hM_w := S2_hM_w.ext hS2
  have hM_d := S2_hM_d.ext hS2
  have hf_p := S2_hf_p.ext hS2
  have hB1 := S2_hB1.ext hS2
  have hT0 := grown_ext S2_hT0 hS2
  refine W.seq ?_
  refine W.region (by rfl) ?_
  refine L.val rfl (op_lss rfl s3_13 s3_12) ?_
  refine L.nil ?_
  refine thenF_nor ?_
  refine W.seq ?_
  refine W.cond (t := decide (((k : Nat) : Int) < (all.length : Int))) rfl (fun hc4 => ?_) (fun hc4 => ?_)
  · have hp4 := hc4
    simp only [Bool.and_eq_true, Bool.or_eq_true, Bool.and_eq_false_iff, Bool.or_eq_false_iff, Bool.not_eq_true', Bool.not_eq_false', decide_eq_true_eq, decide_eq_false_iff_not] at hp4
    refine W.skip ?_
    refine thenF_nor ?_
    refine W.seq ?_
    refine W.block ?_
    refine W.seq ?_
    refine W.region (by rfl) ?_
    refine L.val rfl (op_index (k := k) rfl s3_11 s3_13 sl25 (hR_s.getA (get_bang (l := all) (k := k) (by omega))).1 rfl (by omega) rfl) ?_
    refine L.val rfl (op_load (v := (all[k]! : Vt)) rfl rfl ty28 (hR_s.getA (get_bang (l := all) (k := k) (by omega))).2) ?_
    refine L.newvar (v := (Enc.val (all[k]! : Vt))) (cs := (Enc.cells (all[k]! : Vt))) rfl rfl rfl rfl rfl rfl (fun _ => rfl) rfl si28 zs28 (Enc.one _) ?_
    intro b5 w5 hb5 hB5 hx5
    have hbb5_hT0 := Nat.le_trans hT0.size hb5
    have hbb5_hS2 := Nat.le_trans hS2.size hb5
    have hT0 := grown_ext hT0 hx5
    have hS2 := hS2.trans hx5
    have hq_s := hq_s.ext hx5
    have hR_s := hR_s.ext hx5
    have hM_w := hM_w.ext hx5
    have hM_d := hM_d.ext hx5
    have hf_p := hf_p.ext hx5
    have hB1 := hB1.ext hx5
    refine L.nil ?_
    refine thenF_nor ?_
    refine W.seq ?_
    refine W.region (by rfl) ?_
    refine L.val rfl (op_move rfl s3_1) ?_
    refine L.val rfl (op_load (v := (all[k]! : Vt)) rfl rfl ty28 hB5.cells) ?_
    refine L.call (v := (.bool (p (all[k]!)))) rfl (op_fits (a := (all[k]! : Vt)) hf_p rfl rfl rfl) ?_
    intro w6 hx6
    have hT0 := grown_ext hT0 hx6
    have hS2 := hS2.trans hx6
    have hq_s := hq_s.ext hx6
    have hR_s := hR_s.ext hx6
    have hM_w := hM_w.ext hx6
    have hM_d := hM_d.ext hx6
    have hf_p := hf_p.ext hx6
    have hB1 := hB1.ext hx6
    have hB5 := hB5.ext hx6
    refine L.nil ?_
    refine thenF_nor ?_
    refine W.cond (t := p (all[k]!)) rfl (fun hc7 => ?_) (fun hc7 => ?_)
    · have hp7 := hc7
      have hres := find_hit hfi (by omega) hc7
      refine W.seq ?_
      refine W.region (by rfl) ?_
      refine L.val rfl (op_move rfl s3_0) ?_
      refine L.val rfl (op_load (v := (all[k]! : Vt)) rfl rfl ty28 hB5.cells) ?_
      refine L.step rfl (OpS.call (op_call rfl (argsC rfl (argsC rfl argsN)) Try.func96 rfl rfl) (want_ok hq_s hR_s hM_w hM_d hne_bd_bw)) ?_
      rintro _ w8 ⟨hM8, hg8⟩
      have hnc8 := hM_w.nc
      have hT0 := grown_trans hT0 hg8
      have hq_s := hq_s.farM hnc8 hg8
      have hR_s := hR_s.farM hnc8 hg8
      have hM_d := hM_d.farM hne_bd_bw hg8
      have hB1 := hB1.farM hnc8 hg8
      have hB5 := hB5.farM hnc8 hg8
      refine L.nil ?_
      refine thenF_nor ?_
      refine W.seq ?_
      refine W.region (by rfl) ?_
      refine L.val rfl (op_load (v := (all[k]! : Vt)) rfl rfl ty28 hB5.cells) ?_
      refine L.step rfl (op_fillbox (v := (Enc.val (all[k]! : Vt))) (vs := Enc.cells (all[k]! : Vt)) rfl s3_4 rfl rfl si28 hB1 (by simp [Enc.len]) (Enc.one _)) ?_
      rintro _ w9 ⟨hB9, hg9⟩
      have hT0 := grown_new hT0 hg9 (by intro k hk; cases hk; exact hbb1_hT0)
      have hq_s := S0_hq_s.farM S0_hM_w.nc hT0
      have hR_s := S0_hR_s.farM S0_hM_w.nc hT0
      have hM_d := hM_d.farB hB1 hg9
      have hM8 := hM8.farB hB1 hg9
      have hB1 := hB9
      refine L.val (v := (.bool true)) rfl (op_assign rfl rfl) ?_
      refine L.nil ?_
      refine thenF_nor ?_
      refine W.ret ?_
      refine blockF_ret ?_
      refine thenF_ret ?_
      refine thenF_ret ?_
      refine blockF_ret ?_
      refine thenF_ret ?_
      exact end_ret2c (x := (all[k]! : Vt)) (v' := (.bool true)) rfl ty28 s3_4 hB1.cells rfl ⟨(by rw [hres]; rfl), (by rw [hres]; exact hM8), hT0⟩
    · have hp7 := hc7
      have hno := hc7
      refine W.skip ?_
      refine blockF_nor ?_
      refine thenF_nor ?_
      refine W.region (by rfl) ?_
      refine L.val rfl (op_add (c := ((k + 1 : Nat) : Int)) rfl s3_13 rfl (by omega) (by omega)) ?_
      refine L.val rfl (op_move rfl rfl) ?_
      refine L.nil ?_
      refine thenF_nor ?_
      exact ⟨k + 1, ⟨(by (try dsimp only); omega), (find_go hfi (by omega) hno), s3_0, s3_1, s3_4, s3_11, s3_12, rfl, hS2⟩, (by (try dsimp only); omega)⟩
  · have hp4 := hc4
    simp only [Bool.and_eq_true, Bool.or_eq_true, Bool.and_eq_false_iff, Bool.or_eq_false_iff, Bool.not_eq_true', Bool.not_eq_false', decide_eq_true_eq, decide_eq_false_iff_not] at hp4
    have hres := find_end hfi (by omega)
    refine W.exit ?_
    refine thenF_exit ?_
    refine thenF_exit ?_
    refine blockF_hit ?_
    refine thenF_nor ?_
    refine W.seq ?_
    refine W.region (by rfl) ?_
    refine L.val rfl (op_build (v := Enc.val (⟨0, 0, 0, 0, 0, 0, Nm.zero, Nm.zero⟩ : Vt)) (cs := Enc.cells (⟨0, 0, 0, 0, 0, 0, Nm.zero, Nm.zero⟩ : Vt)) rfl partsN (by kernel_rfl) rfl) ?_
    refine L.step rfl (op_fillbox (v := (Enc.val (⟨0, 0, 0, 0, 0, 0, Nm.zero, Nm.zero⟩ : Vt))) (vs := Enc.cells (⟨0, 0, 0, 0, 0, 0, Nm.zero, Nm.zero⟩ : Vt)) rfl s3_4 rfl rfl si28 hB1 (by simp [Enc.len]) (Enc.one _)) ?_
    rintro _ w10 ⟨hB10, hg10⟩
    have hT0 := grown_new hT0 hg10 (by intro k hk; cases hk; exact hbb1_hT0)
    have hq_s := S0_hq_s.farM S0_hM_w.nc hT0
    have hR_s := S0_hR_s.farM S0_hM_w.nc hT0
    have hM_w := hM_w.farB hB1 hg10
    have hM_d := hM_d.farB hB1 hg10
    have hB1 := hB10
    refine L.val (v := (.bool false)) rfl (op_assign rfl rfl) ?_
    refine L.nil ?_
    refine thenF_nor ?_
    refine W.ret ?_
    exact end_ret2c (x := (⟨0, 0, 0, 0, 0, 0, Nm.zero, Nm.zero⟩ : Vt)) (v' := (.bool false)) rfl ty28 s3_4 hB1.cells rfl ⟨(by rw [hres]; rfl), (by rw [hres]; exact hM_w), hT0⟩

set_option maxRecDepth 100000 in
theorem supporters_ok {q_s : Addr} {m_s : Int} {A_s : Option Addr} {c_s lo_s hi_s bw bd : Nat} {all : List Vt} {lw ld : List (Vt × Int)} {v : Vt} {kind : Int} {round : Int}  {w : World} (hq_s : Cells w q_s [.int .i64 m_s, .slice A_s all.length c_s, .map (some bw), .map (some bd)]) (hR_s : Rd w lo_s hi_s A_s all) (hM_w : Mp w bw lw) (hM_d : Mp w bd ld) (hne_bd_bw : bd ≠ bw) : Gives Try.prog 99 #[(.pointer (some q_s)), (Enc.val (v : Vt)), (.int .i64 kind), (.int .i64 round)] w fun u w' => Mp w' bw (wants ld lw (sup_n all v kind round) : List (Vt × Int)) ∧ w.grownBy w' (some bw) := by
  have hne_bw_bd := Ne.symm hne_bd_bw
  have hT0 : w.grownBy w (some bw) := grown_refl _ _
  have S0_hq_s := hq_s
  have S0_hR_s := hR_s
  have S0_hM_w := hM_w
  have S0_hM_d := hM_d
  have hlen_s := hR_s.len
  refine gives_of_W Try.func99 rfl Try.ntmps99 rfl ?_
  refine W.seq ?_
  refine W.region (by rfl) ?_
  refine L.step rfl (op_box (cs := (Enc.cells (v : Vt))) rfl rfl rfl) ?_
  rintro _ w1 ⟨b1, rfl, hb1, hB1, hx1⟩
  have hT0 := grown_ext hT0 hx1
  have hq_s := hq_s.ext hx1
  have hR_s := hR_s.ext hx1
  have hM_w := hM_w.ext hx1
  have hM_d := hM_d.ext hx1
  refine L.step rfl (op_box (cs := (Enc.cells (kind : Int))) rfl rfl rfl) ?_
  rintro _ w2 ⟨b2, rfl, hb2, hB2, hx2⟩
  have hT0 := grown_ext hT0 hx2
  have hq_s := hq_s.ext hx2
  have hR_s := hR_s.ext hx2
  have hM_w := hM_w.ext hx2
  have hM_d := hM_d.ext hx2
  have hB1 := hB1.ext hx2
  refine L.step rfl (op_box (cs := (Enc.cells (round : Int))) rfl rfl rfl) ?_
  rintro _ w3 ⟨b3, rfl, hb3, hB3, hx3⟩
  have hT0 := grown_ext hT0 hx3
  have hq_s := hq_s.ext hx3
  have hR_s := hR_s.ext hx3
  have hM_w := hM_w.ext hx3
  have hM_d := hM_d.ext hx3
  have hB1 := hB1.ext hx3
  have hB2 := hB2.ext hx3
  refine L.nil ?_
  refine thenF_nor ?_
  refine W.seq ?_
  refine W.region (by rfl) ?_
  refine L.val rfl (op_field rfl rfl fo28_5 rfl) ?_
  refine L.val rfl (op_load1 rfl rfl one22 (hB1.cells.one (n := 5) rfl)) ?_
  refine L.step rfl (OpS.call (op_call rfl (argsC rfl argsN) Try.func44 rfl rfl) IDs_ok) ?_
  rintro _ w4 ⟨⟨A4, c4, lo4, hi4, rfl, hcap4, hR4⟩, hx4⟩
  have hT0 := grown_ext hT0 hx4
  have hq_s := hq_s.ext hx4
  have hR_s := hR_s.ext hx4
  have hM_w := hM_w.ext hx4
  have hM_d := hM_d.ext hx4
  have hB1 := hB1.ext hx4
  have hB2 := hB2.ext hx4
  have hB3 := hB3.ext hx4
  have hlen4 := hR4.len
  refine L.val rfl (op_len rfl rfl ln57) ?_
  refine L.val rfl (op_move rfl rfl) ?_
  refine L.nil ?_
  refine thenF_nor ?_
  refine W.block ?_
  have S5_hq_s := hq_s
  have S5_hR_s := hR_s
  have S5_hM_w := hM_w
  have S5_hM_d := hM_d
  have S5_hB1 := hB1
  have S5_hB2 := hB2
  have S5_hB3 := hB3
  have S5_hR4 := hR4
  have S5_hT0 := hT0
  have hS5 : Ext w4 w4 := Ext.refl _
  refine W.loopg (γ := Nat) (fun (k : Nat) (f : Fr) (ww : World) => k ≤ (ids_f v.support).length ∧ f 0 = (.pointer (some q_s)) ∧ f 5 = (.pointer (some ⟨b1, 0, none⟩)) ∧ f 6 = (.pointer (some ⟨b2, 0, none⟩)) ∧ f 7 = (.pointer (some ⟨b3, 0, none⟩)) ∧ f 12 = (.slice A4 (ids_f v.support).length c4) ∧ f 13 = (.int .i64 ((ids_f v.support).length : Int)) ∧ f 14 = (.int .i64 ((k : Nat) : Int)) ∧ Mp ww bw (wants ld lw (((ids_f v.support).take k).filterMap (sup_g all v kind round)) : List (Vt × Int)) ∧ w4.grownBy ww (some bw)) (fun (k : Nat) => (ids_f v.support).length - k) 0 ⟨(by (try dsimp only); omega), rfl, rfl, rfl, rfl, rfl, rfl, rfl, hM_w, (grown_refl _ _)⟩ ?_
  rintro k f6 w6 ⟨hk, s6_0, s6_5, s6_6, s6_7, s6_12, s6_13, s6_14, hM6_bw, hT6⟩
  have hnc6 := S5_hM_w.nc
  have hq_s := S5_hq_s.farM hnc6 hT6
  have hR_s := S5_hR_s.farM hnc6 hT6
  have hM_d := S5_hM_d.farM hne_bd_bw hT6
  have hB1 := S5_hB1.farM hnc6 hT6
  have hB2 := S5_hB2.farM hnc6 hT6
  have hB3 := S5_hB3.farM hnc6 hT6
  have hR4 := S5_hR4.farM hnc6 hT6
  have hT0 := grown_trans S5_hT0 hT6
  refine W.seq ?_
  refine W.region (by rfl) ?_
  refine L.val rfl (op_lss rfl s6_14 s6_13) ?_
  refine L.nil ?_
  refine thenF_nor ?_
  refine W.seq ?_
  refine W.cond (t := decide (((k : Nat) : Int) < ((ids_f v.support).length : Int))) rfl (fun hc7 => ?_) (fun hc7 => ?_)
  · have hp7 := hc7
    simp only [Bool.and_eq_true, Bool.or_eq_true, Bool.and_eq_false_iff, Bool.or_eq_false_iff, Bool.not_eq_true', Bool.not_eq_false', decide_eq_true_eq, decide_eq_false_iff_not] at hp7
    refine W.skip ?_
    refine thenF_nor ?_
    refine W.seq ?_
    refine W.block ?_
    refine W.seq ?_
    refine W.region (by rfl) ?_
    refine L.val rfl (op_index (k := k) rfl s6_12 s6_14 sl57 (hR4.getA (get_bang (l := ids_f v.support) (k := k) (by omega))).1 rfl (by omega) rfl) ?_
    refine L.val rfl (op_load1 rfl rfl one3 ((hR4.getA (get_bang (l := ids_f v.support) (k := k) (by omega))).2.one (n := 0) rfl)) ?_
    refine L.newvar (v := (.int .i64 ((ids_f v.support)[k]!))) (cs := (Enc.cells ((ids_f v.support)[k]! : Int))) rfl rfl rfl rfl rfl rfl (fun _ => rfl) rfl si3 zs3 (Enc.one _) ?_
    intro b8 w8 hb8 hB8 hx8
    have hbb8_hT0 := Nat.le_trans hT0.size hb8
    have hbb8_hT6 := Nat.le_trans hT6.size hb8
    have hT0 := grown_ext hT0 hx8
    have hT6 := grown_ext hT6 hx8
    have hq_s := hq_s.ext hx8
    have hR_s := hR_s.ext hx8
    have hM_d := hM_d.ext hx8
    have hB1 := hB1.ext hx8
    have hB2 := hB2.ext hx8
    have hB3 := hB3.ext hx8
    have hR4 := hR4.ext hx8
    have hM6_bw := hM6_bw.ext hx8
    refine L.nil ?_
    refine thenF_nor ?_
    refine W.region (by rfl) ?_
    refine L.val rfl (op_move rfl s6_0) ?_
    refine L.val rfl (op_func rfl (argsC rfl (argsC s6_5 (argsC s6_6 (argsC s6_7 argsN))))) ?_
    refine L.step rfl (OpS.call (op_call rfl (argsC rfl (argsC rfl argsN)) Try.func70 rfl rfl) (least_ok hq_s hR_s hM6_bw hM_d hne_bd_bw (⟨_, [(.pointer (some ⟨b8, 0, none⟩)), (.pointer (some ⟨b1, 0, none⟩)), (.pointer (some ⟨b2, 0, none⟩)), (.pointer (some ⟨b3, 0, none⟩))], _, rfl, Try.func122, rfl, rfl, fun xx ww hxx => (supp1_ok (hB8.cells.ext hxx) (hB1.cells.ext hxx) (hB2.cells.ext hxx) (hB3.cells.ext hxx))⟩ : Fits _ _ _ (fun xx => supp1_f xx ((ids_f v.support)[k]!) v kind round)))) ?_
    rintro _ w9 ⟨rfl, hM9, hg9⟩
    have hnc9 := hM6_bw.nc
    have hT0 := grown_trans hT0 hg9
    have hT6 := grown_trans hT6 hg9
    have hq_s := hq_s.farM hnc9 hg9
    have hR_s := hR_s.farM hnc9 hg9
    have hM_d := hM_d.farM hne_bd_bw hg9
    have hB1 := hB1.farM hnc9 hg9
    have hB2 := hB2.farM hnc9 hg9
    have hB3 := hB3.farM hnc9 hg9
    have hR4 := hR4.farM hnc9 hg9
    have hB8 := hB8.farM hnc9 hg9
    refine L.nil ?_
    refine blockF_nor ?_
    refine thenF_nor ?_
    refine W.region (by rfl) ?_
    refine L.val rfl (op_add (c := ((k + 1 : Nat) : Int)) rfl s6_14 rfl (by omega) (by omega)) ?_
    refine L.val rfl (op_move rfl rfl) ?_
    refine L.nil ?_
    refine thenF_nor ?_
    exact ⟨k + 1, ⟨(by (try dsimp only); omega), s6_0, s6_5, s6_6, s6_7, s6_12, s6_13, rfl, (by rw [wants_go (g := (sup_g all v kind round)) (by omega)]; exact hM9), hT6⟩, (by (try dsimp only); omega)⟩
  · have hp7 := hc7
    simp only [Bool.and_eq_true, Bool.or_eq_true, Bool.and_eq_false_iff, Bool.or_eq_false_iff, Bool.not_eq_true', Bool.not_eq_false', decide_eq_true_eq, decide_eq_false_iff_not] at hp7
    have hkl : k = (ids_f v.support).length := by omega
    rw [hkl, List.take_length] at hM6_bw
    refine W.exit ?_
    refine thenF_exit ?_
    refine thenF_exit ?_
    refine blockF_hit ?_
    exact end_nor0 rfl ⟨hM6_bw, hT0⟩

set_option maxRecDepth 100000 in
theorem leastMixed_ok {q_s : Addr} {m_s : Int} {A_s : Option Addr} {c_s lo_s hi_s bw bd : Nat} {all : List Vt} {lw ld : List (Vt × Int)} {i : Int} {round : Int}  {w : World} (hq_s : Cells w q_s [.int .i64 m_s, .slice A_s all.length c_s, .map (some bw), .map (some bd)]) (hR_s : Rd w lo_s hi_s A_s all) (hM_w : Mp w bw lw) (hM_d : Mp w bd ld) (hne_bd_bw : bd ≠ bw) : Gives Try.prog 125 #[(.pointer (some q_s)), (.int .i64 i), (.int .i64 round)] w fun u w' => Mp w' bw (wantO ld lw (lm_g all round i) : List (Vt × Int)) ∧ w.grownBy w' (some bw) := by
  have hne_bw_bd := Ne.symm hne_bd_bw
  have hT0 : w.grownBy w (some bw) := grown_refl _ _
  have S0_hq_s := hq_s
  have S0_hR_s := hR_s
  have S0_hM_w := hM_w
  have S0_hM_d := hM_d
  have hlen_s := hR_s.len
  refine gives_of_W Try.func125 rfl Try.ntmps125 rfl ?_
  refine W.seq ?_
  refine W.region (by rfl) ?_
  refine L.step rfl (op_box (cs := (Enc.cells (i : Int))) rfl rfl rfl) ?_
  rintro _ w1 ⟨b1, rfl, hb1, hB1, hx1⟩
  have hT0 := grown_ext hT0 hx1
  have hq_s := hq_s.ext hx1
  have hR_s := hR_s.ext hx1
  have hM_w := hM_w.ext hx1
  have hM_d := hM_d.ext hx1
  refine L.step rfl (op_box (cs := (Enc.cells (round : Int))) rfl rfl rfl) ?_
  rintro _ w2 ⟨b2, rfl, hb2, hB2, hx2⟩
  have hT0 := grown_ext hT0 hx2
  have hq_s := hq_s.ext hx2
  have hR_s := hR_s.ext hx2
  have hM_w := hM_w.ext hx2
  have hM_d := hM_d.ext hx2
  have hB1 := hB1.ext hx2
  refine L.nil ?_
  refine thenF_nor ?_
  refine W.region (by rfl) ?_
  refine L.val rfl (op_move rfl rfl) ?_
  refine L.val rfl (op_func rfl (argsC rfl (argsC rfl argsN))) ?_
  refine L.step rfl (OpS.call (op_call rfl (argsC rfl (argsC rfl argsN)) Try.func70 rfl rfl) (least_ok hq_s hR_s hM_w hM_d hne_bd_bw (⟨_, [(.pointer (some ⟨b1, 0, none⟩)), (.pointer (some ⟨b2, 0, none⟩))], _, rfl, Try.func134, rfl, rfl, fun xx ww hxx => (lm1_ok (hB1.cells.ext hxx) (hB2.cells.ext hxx))⟩ : Fits _ _ _ (fun xx => lm1_f xx i round)))) ?_
  rintro _ w3 ⟨rfl, hM3, hg3⟩
  have hnc3 := hM_w.nc
  have hT0 := grown_trans hT0 hg3
  have hq_s := hq_s.farM hnc3 hg3
  have hR_s := hR_s.farM hnc3 hg3
  have hM_d := hM_d.farM hne_bd_bw hg3
  have hB1 := hB1.farM hnc3 hg3
  have hB2 := hB2.farM hnc3 hg3
  refine L.nil ?_
  exact end_nor0 rfl ⟨hM3, hT0⟩

set_option maxRecDepth 100000 in
theorem adopts_ok {q_s : Addr} {m_s : Int} {A_s : Option Addr} {c_s lo_s hi_s bw bd : Nat} {all : List Vt} {lw ld : List (Vt × Int)} {v : Vt}  {w : World} (hq_s : Cells w q_s [.int .i64 m_s, .slice A_s all.length c_s, .map (some bw), .map (some bd)]) (hR_s : Rd w lo_s hi_s A_s all) (hM_w : Mp w bw lw) (hM_d : Mp w bd ld) (hne_bd_bw : bd ≠ bw) (hal : all.length ≤ 1000000) : Gives Try.prog 123 #[(.pointer (some q_s)), (Enc.val (v : Vt))] w fun u w' => u = (.bool (adopts_f m_s all v)) ∧ Ext w w' := by
  have hne_bw_bd := Ne.symm hne_bd_bw
  have hE : Ext w w := Ext.refl w
  have hlen_s := hR_s.len
  refine gives_of_W Try.func123 rfl Try.ntmps123 rfl ?_
  refine W.seq ?_
  refine W.region (by rfl) ?_
  refine L.step rfl (op_box (cs := (Enc.cells (v : Vt))) rfl rfl rfl) ?_
  rintro _ w1 ⟨b1, rfl, hb1, hB1, hx1⟩
  have hE := hE.trans hx1
  have hq_s := hq_s.ext hx1
  have hR_s := hR_s.ext hx1
  have hM_w := hM_w.ext hx1
  have hM_d := hM_d.ext hx1
  refine L.val (v := (.bool false)) rfl (op_assign rfl rfl) ?_
  refine L.nil ?_
  refine thenF_nor ?_
  refine W.seq ?_
  refine W.region (by rfl) ?_
  refine L.val rfl (op_assign rfl rfl) ?_
  refine L.nil ?_
  refine thenF_nor ?_
  refine W.seq ?_
  refine W.seq ?_
  refine W.region (by rfl) ?_
  refine L.val rfl (op_move rfl rfl) ?_
  refine L.val rfl (op_nilCheck rfl rfl) ?_
  refine L.val rfl (op_field rfl rfl fo89_1 rfl) ?_
  refine L.val rfl (op_load1 rfl rfl one25 (hq_s.one (n := 1) rfl)) ?_
  refine L.val rfl (op_len rfl rfl ln25) ?_
  refine L.val rfl (op_move rfl rfl) ?_
  refine L.nil ?_
  refine thenF_nor ?_
  refine W.block ?_
  have S2_hq_s := hq_s
  have S2_hR_s := hR_s
  have S2_hM_w := hM_w
  have S2_hM_d := hM_d
  have S2_hB1 := hB1
  have S2_hE := hE
  have hS2 : Ext w1 w1 := Ext.refl _
  refine W.loopg (γ := Nat) (fun (k : Nat) (f : Fr) (ww : World) => k ≤ all.length ∧ f 0 = (.pointer (some q_s)) ∧ f 3 = (.pointer (some ⟨b1, 0, none⟩)) ∧ f 4 = (.bool false) ∧ f 11 = (.slice A_s all.length c_s) ∧ f 12 = (.int .i64 (all.length : Int)) ∧ f 13 = (.int .i64 ((k : Nat) : Int)) ∧ Fk.Own ww w1.heap.size 28 (f 5) ((all.take k).filter (fun x : Vt => decide (x.kind = 4))) ∧ Ext w1 ww) (fun (k : Nat) => all.length - k) 0 ⟨(by (try dsimp only); omega), rfl, rfl, rfl, rfl, rfl, rfl, (own_at (v := .slice none 0 0) rfl (Fk.Own.nil _ _ _)), hS2⟩ ?_
  rintro k f3 w3 ⟨hk, s3_0, s3_3, s3_4, s3_11, s3_12, s3_13, hO3_5, hS2⟩
  have hq_s := S2_hq_s.ext hS2
  have hR_s := S2_hR_s.ext hS2
  have hM_w := S2_hM_w.ext hS2
  have hM_d := S2_hM_d.ext hS2
  have hB1 := S2_hB1.ext hS2
  have hE := S2_hE.trans hS2
  obtain ⟨v3_5, s3_5⟩ : ∃ v, f3 5 = v := ⟨_, rfl⟩
  rw [s3_5] at hO3_5
  have hfl := List.length_filter_le (fun x : Vt => decide (x.kind = 4)) (all.take k)
  have htl := List.length_take_le' k all
  refine W.seq ?_
  refine W.region (by rfl) ?_
  refine L.val rfl (op_lss rfl s3_13 s3_12) ?_
  refine L.nil ?_
  refine thenF_nor ?_
  refine W.seq ?_
  refine W.cond (t := decide (((k : Nat) : Int) < (all.length : Int))) rfl (fun hc4 => ?_) (fun hc4 => ?_)
  · have hp4 := hc4
    simp only [Bool.and_eq_true, Bool.or_eq_true, Bool.and_eq_false_iff, Bool.or_eq_false_iff, Bool.not_eq_true', Bool.not_eq_false', decide_eq_true_eq, decide_eq_false_iff_not] at hp4
    refine W.skip ?_
    refine thenF_nor ?_
    refine W.seq ?_
    refine W.block ?_
    refine W.seq ?_
    refine W.region (by rfl) ?_
    refine L.val rfl (op_index (k := k) rfl s3_11 s3_13 sl25 (hR_s.getA (get_bang (l := all) (k := k) (by omega))).1 rfl (by omega) rfl) ?_
    refine L.val rfl (op_load (v := (all[k]! : Vt)) rfl rfl ty28 (hR_s.getA (get_bang (l := all) (k := k) (by omega))).2) ?_
    refine L.newvar (v := (Enc.val (all[k]! : Vt))) (cs := (Enc.cells (all[k]! : Vt))) rfl rfl rfl rfl rfl rfl (fun _ => rfl) rfl si28 zs28 (Enc.one _) ?_
    intro b5 w5 hb5 hB5 hx5
    have hbb5_hE := Nat.le_trans hE.size hb5
    have hbb5_hS2 := Nat.le_trans hS2.size hb5
    have hE := hE.trans hx5
    have hS2 := hS2.trans hx5
    have hq_s := hq_s.ext hx5
    have hR_s := hR_s.ext hx5
    have hM_w := hM_w.ext hx5
    have hM_d := hM_d.ext hx5
    have hB1 := hB1.ext hx5
    have hO3_5 := hO3_5.ext hx5
    refine L.nil ?_
    refine thenF_nor ?_
    refine W.seq ?_
    refine W.region (by rfl) ?_
    refine L.val rfl (op_field rfl rfl fo28_0 rfl) ?_
    refine L.val rfl (op_load1 rfl rfl one3 (hB5.cells.one (n := 0) rfl)) ?_
    refine L.val rfl (op_eql rfl rfl rfl) ?_
    refine L.nil ?_
    refine thenF_nor ?_
    refine W.cond (t := decide (((all[k]!).kind) = 4)) rfl (fun hc6 => ?_) (fun hc6 => ?_)
    · have hp6 := hc6
      simp only [Bool.and_eq_true, Bool.or_eq_true, Bool.and_eq_false_iff, Bool.or_eq_false_iff, Bool.not_eq_true', Bool.not_eq_false', decide_eq_true_eq, decide_eq_false_iff_not] at hp6
      have hstep := filter_yes (l := all) (p := (fun x : Vt => decide (x.kind = 4))) (k := k) (by omega) hc6
      refine W.region (by rfl) ?_
      refine L.val rfl (op_move rfl s3_5) ?_
      refine L.val rfl (op_load (v := (all[k]! : Vt)) rfl rfl ty28 hB5.cells) ?_
      refine L.step rfl (op_slice1 (a := (all[k]! : Vt)) rfl rfl sl25 zs28 (by decide)) ?_
      rintro _ w7 ⟨b7, rfl, hb7, hB7, hx7⟩
      have hE := hE.trans hx7
      have hS2 := hS2.trans hx7
      have hq_s := hq_s.ext hx7
      have hR_s := hR_s.ext hx7
      have hM_w := hM_w.ext hx7
      have hM_d := hM_d.ext hx7
      have hB1 := hB1.ext hx7
      have hO3_5 := hO3_5.ext hx7
      have hB5 := hB5.ext hx7
      refine L.step rfl (op_append (a := (all[k]! : Vt)) (ad := ⟨b7, 0, none⟩) rfl rfl rfl sl25 zs28 bt28 hO3_5 hB7.cells (by omega) (by decide) hS2.size) ?_
      rintro v8 w8 ⟨hO8, hg8⟩
      have hS2 := hS2.own hO3_5 hg8
      have hq_s := S2_hq_s.ext hS2
      have hR_s := S2_hR_s.ext hS2
      have hM_w := S2_hM_w.ext hS2
      have hM_d := S2_hM_d.ext hS2
      have hB1 := S2_hB1.ext hS2
      have hE := S2_hE.trans hS2
      refine L.val rfl (op_assign rfl rfl) ?_
      refine L.nil ?_
      refine blockF_nor ?_
      refine thenF_nor ?_
      refine W.region (by rfl) ?_
      refine L.val rfl (op_add (c := ((k + 1 : Nat) : Int)) rfl s3_13 rfl (by omega) (by omega)) ?_
      refine L.val rfl (op_move rfl rfl) ?_
      refine L.nil ?_
      refine thenF_nor ?_
      exact ⟨k + 1, ⟨(by (try dsimp only); omega), s3_0, s3_3, s3_4, s3_11, s3_12, rfl, (own_at (v := v8) rfl (by rw [← hstep]; exact hO8)), hS2⟩, (by (try dsimp only); omega)⟩
    · have hp6 := hc6
      simp only [Bool.and_eq_true, Bool.or_eq_true, Bool.and_eq_false_iff, Bool.or_eq_false_iff, Bool.not_eq_true', Bool.not_eq_false', decide_eq_true_eq, decide_eq_false_iff_not] at hp6
      have hstep := filter_no (l := all) (p := (fun x : Vt => decide (x.kind = 4))) (k := k) (by omega) hc6
      refine W.skip ?_
      refine blockF_nor ?_
      refine thenF_nor ?_
      refine W.region (by rfl) ?_
      refine L.val rfl (op_add (c := ((k + 1 : Nat) : Int)) rfl s3_13 rfl (by omega) (by omega)) ?_
      refine L.val rfl (op_move rfl rfl) ?_
      refine L.nil ?_
      refine thenF_nor ?_
      exact ⟨k + 1, ⟨(by (try dsimp only); omega), s3_0, s3_3, s3_4, s3_11, s3_12, rfl, (own_at (v := v3_5) s3_5 (by rw [← hstep]; exact hO3_5)), hS2⟩, (by (try dsimp only); omega)⟩
  · have hp4 := hc4
    simp only [Bool.and_eq_true, Bool.or_eq_true, Bool.and_eq_false_iff, Bool.or_eq_false_iff, Bool.not_eq_true', Bool.not_eq_false', decide_eq_true_eq, decide_eq_false_iff_not] at hp4
    have hkl : k = all.length := by omega
    rw [hkl, List.take_length] at hO3_5
    have hfl2 := List.length_filter_le (fun x : Vt => decide (x.kind = 4)) all
    refine W.exit ?_
    refine thenF_exit ?_
    refine thenF_exit ?_
    refine blockF_hit ?_
    refine thenF_nor ?_
    refine W.seq ?_
    obtain ⟨A9, c9, hv9, hR9, hcap9⟩ := (hO3_5).form
    have hlen9 := hR9.len
    refine W.drawS [Sp.eq (.pointer (some q_s)), Sp.eq (.pointer (some q_s)), Sp.eq (.pointer (some q_s)), Sp.eq (.int .i64 m_s), Sp.eq (Enc.val (v : Vt)), Sp.eq (.slice A9 (all.filter (fun x : Vt => decide (x.kind = 4))).length c9), Sp.eq (.bool (allowed_f m_s v (all.filter (fun x : Vt => decide (x.kind = 4))))), Sp.eq (.bool (allowed_f m_s v (all.filter (fun x : Vt => decide (x.kind = 4)))))] mixed (by rfl) (Obls.cons ?_ (Obls.cons ?_ (Obls.cons ?_ (Obls.cons ?_ (Obls.cons ?_ (Obls.cons ?_ (Obls.cons ?_ (Obls.cons ?_ Obls.nil)))))))) ?_
    · intro f11 w11 hx11 ho11 hd11
      have d11_s0 : f11 0 = (.pointer (some q_s)) := (ho11 0 rfl).trans s3_0
      exact D.val rfl (op_move rfl d11_s0)
    · intro f12 w12 hx12 ho12 hd12
      have d12_0 : f12 25 = (.pointer (some q_s)) := hd12 0 rfl
      exact D.val rfl (op_nilCheck rfl d12_0)
    · intro f13 w13 hx13 ho13 hd13
      have d13_1 : f13 26 = (.pointer (some q_s)) := hd13 1 rfl
      exact D.val rfl (op_field rfl d13_1 fo89_0 rfl)
    · intro f14 w14 hx14 ho14 hd14
      have d14_2 : f14 27 = (.pointer (some q_s)) := hd14 2 rfl
      have hq_s := hq_s.ext hx14
      have hR_s := hR_s.ext hx14
      have hM_w := hM_w.ext hx14
      have hM_d := hM_d.ext hx14
      have hB1 := hB1.ext hx14
      have hO3_5 := hO3_5.ext hx14
      have hR9 := hR9.ext hx14
      exact D.val rfl (op_load1 rfl d14_2 one22 (hq_s.one (n := 0) rfl))
    · intro f15 w15 hx15 ho15 hd15
      have d15_s3 : f15 3 = (.pointer (some ⟨b1, 0, none⟩)) := (ho15 3 rfl).trans s3_3
      have hq_s := hq_s.ext hx15
      have hR_s := hR_s.ext hx15
      have hM_w := hM_w.ext hx15
      have hM_d := hM_d.ext hx15
      have hB1 := hB1.ext hx15
      have hO3_5 := hO3_5.ext hx15
      have hR9 := hR9.ext hx15
      exact D.val rfl (op_load (v := (v : Vt)) rfl d15_s3 ty28 hB1.cells)
    · intro f16 w16 hx16 ho16 hd16
      have d16_s5 : f16 5 = (.slice A9 (all.filter (fun x : Vt => decide (x.kind = 4))).length c9) := (ho16 5 rfl).trans ((show _ = v3_5 from s3_5).trans hv9)
      exact D.val rfl (op_move rfl d16_s5)
    · intro f17 w17 hx17 ho17 hd17
      have d17_3 : f17 28 = (.int .i64 m_s) := hd17 3 rfl
      have d17_4 : f17 29 = (Enc.val (v : Vt)) := hd17 4 rfl
      have d17_5 : f17 30 = (.slice A9 (all.filter (fun x : Vt => decide (x.kind = 4))).length c9) := hd17 5 rfl
      have hq_s := hq_s.ext hx17
      have hR_s := hR_s.ext hx17
      have hM_w := hM_w.ext hx17
      have hM_d := hM_d.ext hx17
      have hB1 := hB1.ext hx17
      have hO3_5 := hO3_5.ext hx17
      have hR9 := hR9.ext hx17
      exact D.call (R := (Sp.eq (.bool (allowed_f m_s v (all.filter (fun x : Vt => decide (x.kind = 4)))))).p) rfl (OpS.call (op_call rfl (argsC d17_3 (argsC d17_4 (argsC d17_5 argsN))) Try.func20 rfl rfl) (Allowed_ok hR9 (by first | omega | (simp only [List.length_drop, List.length_take, List.length_append, List.length_cons, List.length_nil] at *; omega))))
    · intro f18 w18 hx18 ho18 hd18
      have d18_6 : f18 31 = (.bool (allowed_f m_s v (all.filter (fun x : Vt => decide (x.kind = 4))))) := hd18 6 rfl
      exact D.val rfl (op_assign rfl d18_6)
    intro f19 w19 hx19 ho19 hr19
    have s0 : f19 0 = (.pointer (some q_s)) := (ho19 0 rfl).trans s3_0
    have s3 : f19 3 = (.pointer (some ⟨b1, 0, none⟩)) := (ho19 3 rfl).trans s3_3
    have s5 : f19 5 = (.slice A9 (all.filter (fun x : Vt => decide (x.kind = 4))).length c9) := (ho19 5 rfl).trans ((show _ = v3_5 from s3_5).trans hv9)
    have s11 : f19 11 = (.slice A_s all.length c_s) := (ho19 11 rfl).trans s3_11
    have s12 : f19 12 = (.int .i64 (all.length : Int)) := (ho19 12 rfl).trans s3_12
    have s13 : f19 13 = (.int .i64 ((k : Nat) : Int)) := (ho19 13 rfl).trans s3_13
    have s14 : f19 14 = (.bool (decide (((k : Nat) : Int) < (all.length : Int)))) := ho19 14 rfl
    have s4 : f19 4 = (.bool (allowed_f m_s v (all.filter (fun x : Vt => decide (x.kind = 4))))) := hr19 7 (by decide)
    have hE := hE.trans hx19
    have hS2 := hS2.trans hx19
    have hq_s := hq_s.ext hx19
    have hR_s := hR_s.ext hx19
    have hM_w := hM_w.ext hx19
    have hM_d := hM_d.ext hx19
    have hB1 := hB1.ext hx19
    have hO3_5 := hO3_5.ext hx19
    have hR9 := hR9.ext hx19
    refine thenF_nor ?_
    refine W.ret ?_
    exact end_ret1 (v := (.bool (allowed_f m_s v (all.filter (fun x : Vt => decide (x.kind = 4)))))) rfl s4 ⟨rfl, hE⟩

set_option maxRecDepth 100000 in
theorem later_ok {q_s : Addr} {m_s : Int} {A_s : Option Addr} {c_s lo_s hi_s bw bd : Nat} {all : List Vt} {lw ld : List (Vt × Int)} {v : Vt}  {w : World} (hq_s : Cells w q_s [.int .i64 m_s, .slice A_s all.length c_s, .map (some bw), .map (some bd)]) (hR_s : Rd w lo_s hi_s A_s all) (hM_w : Mp w bw lw) (hM_d : Mp w bd ld) (hne_bd_bw : bd ≠ bw) (hal : all.length ≤ 1000000) (h0 : 0 ≤ v.round) (h1 : v.round ≤ 100) : Gives Try.prog 100 #[(.pointer (some q_s)), (Enc.val (v : Vt))] w fun u w' => Mp w' bw (wants ld lw (later_n m_s all v) : List (Vt × Int)) ∧ w.grownBy w' (some bw) := by
  have hne_bw_bd := Ne.symm hne_bd_bw
  have hT0 : w.grownBy w (some bw) := grown_refl _ _
  have S0_hq_s := hq_s
  have S0_hR_s := hR_s
  have S0_hM_w := hM_w
  have S0_hM_d := hM_d
  have hlen_s := hR_s.len
  refine gives_of_W Try.func100 rfl Try.ntmps100 rfl ?_
  refine W.seq ?_
  refine W.region (by rfl) ?_
  refine L.step rfl (op_box (cs := (Enc.cells (v : Vt))) rfl rfl rfl) ?_
  rintro _ w1 ⟨b1, rfl, hb1, hB1, hx1⟩
  have hT0 := grown_ext hT0 hx1
  have hq_s := hq_s.ext hx1
  have hR_s := hR_s.ext hx1
  have hM_w := hM_w.ext hx1
  have hM_d := hM_d.ext hx1
  refine L.nil ?_
  refine thenF_nor ?_
  refine W.seq ?_
  refine W.seq ?_
  refine W.region (by rfl) ?_
  refine L.val rfl (op_move rfl rfl) ?_
  refine L.val rfl (op_load (v := (v : Vt)) rfl rfl ty28 hB1.cells) ?_
  refine L.call (v := (.bool (adopts_f m_s all v))) rfl (OpS.call (op_call rfl (argsC rfl (argsC rfl argsN)) Try.func123 rfl rfl) (adopts_ok hq_s hR_s hM_w hM_d hne_bd_bw (by first | omega | (simp only [List.length_drop, List.length_take, List.length_append, List.length_cons, List.length_nil] at *; omega)))) ?_
  intro w2 hx2
  have hT0 := grown_ext hT0 hx2
  have hq_s := hq_s.ext hx2
  have hR_s := hR_s.ext hx2
  have hM_w := hM_w.ext hx2
  have hM_d := hM_d.ext hx2
  have hB1 := hB1.ext hx2
  refine L.nil ?_
  refine thenF_nor ?_
  refine W.cond (t := adopts_f m_s all v) rfl (fun hc3 => ?_) (fun hc3 => ?_)
  · have hp3 := hc3
    refine W.seq ?_
    refine W.seq ?_
    refine W.region (by rfl) ?_
    refine L.val rfl (op_field rfl rfl fo28_5 rfl) ?_
    refine L.val rfl (op_load1 rfl rfl one22 (hB1.cells.one (n := 5) rfl)) ?_
    refine L.step rfl (OpS.call (op_call rfl (argsC rfl argsN) Try.func44 rfl rfl) IDs_ok) ?_
    rintro _ w4 ⟨⟨A4, c4, lo4, hi4, rfl, hcap4, hR4⟩, hx4⟩
    have hT0 := grown_ext hT0 hx4
    have hq_s := hq_s.ext hx4
    have hR_s := hR_s.ext hx4
    have hM_w := hM_w.ext hx4
    have hM_d := hM_d.ext hx4
    have hB1 := hB1.ext hx4
    have hlen4 := hR4.len
    refine L.val rfl (op_len rfl rfl ln57) ?_
    refine L.val rfl (op_move rfl rfl) ?_
    refine L.nil ?_
    refine thenF_nor ?_
    refine W.block ?_
    have S5_hq_s := hq_s
    have S5_hR_s := hR_s
    have S5_hM_w := hM_w
    have S5_hM_d := hM_d
    have S5_hB1 := hB1
    have S5_hR4 := hR4
    have S5_hT0 := hT0
    have hS5 : Ext w4 w4 := Ext.refl _
    refine W.loopg (γ := Nat) (fun (k : Nat) (f : Fr) (ww : World) => k ≤ (ids_f v.support).length ∧ f 0 = (.pointer (some q_s)) ∧ f 3 = (.pointer (some ⟨b1, 0, none⟩)) ∧ f 15 = (.slice A4 (ids_f v.support).length c4) ∧ f 16 = (.int .i64 ((ids_f v.support).length : Int)) ∧ f 17 = (.int .i64 ((k : Nat) : Int)) ∧ Mp ww bw (wants ld lw (((ids_f v.support).take k).filterMap (la_g all v)) : List (Vt × Int)) ∧ w4.grownBy ww (some bw)) (fun (k : Nat) => (ids_f v.support).length - k) 0 ⟨(by (try dsimp only); omega), rfl, rfl, rfl, rfl, rfl, hM_w, (grown_refl _ _)⟩ ?_
    rintro k f6 w6 ⟨hk, s6_0, s6_3, s6_15, s6_16, s6_17, hM6_bw, hT6⟩
    have hnc6 := S5_hM_w.nc
    have hq_s := S5_hq_s.farM hnc6 hT6
    have hR_s := S5_hR_s.farM hnc6 hT6
    have hM_d := S5_hM_d.farM hne_bd_bw hT6
    have hB1 := S5_hB1.farM hnc6 hT6
    have hR4 := S5_hR4.farM hnc6 hT6
    have hT0 := grown_trans S5_hT0 hT6
    refine W.seq ?_
    refine W.region (by rfl) ?_
    refine L.val rfl (op_lss rfl s6_17 s6_16) ?_
    refine L.nil ?_
    refine thenF_nor ?_
    refine W.seq ?_
    refine W.cond (t := decide (((k : Nat) : Int) < ((ids_f v.support).length : Int))) rfl (fun hc7 => ?_) (fun hc7 => ?_)
    · have hp7 := hc7
      simp only [Bool.and_eq_true, Bool.or_eq_true, Bool.and_eq_false_iff, Bool.or_eq_false_iff, Bool.not_eq_true', Bool.not_eq_false', decide_eq_true_eq, decide_eq_false_iff_not] at hp7
      refine W.skip ?_
      refine thenF_nor ?_
      refine W.seq ?_
      refine W.block ?_
      refine W.seq ?_
      refine W.region (by rfl) ?_
      refine L.val rfl (op_index (k := k) rfl s6_15 s6_17 sl57 (hR4.getA (get_bang (l := ids_f v.support) (k := k) (by omega))).1 rfl (by omega) rfl) ?_
      refine L.val rfl (op_load1 rfl rfl one3 ((hR4.getA (get_bang (l := ids_f v.support) (k := k) (by omega))).2.one (n := 0) rfl)) ?_
      refine L.newvar (v := (.int .i64 ((ids_f v.support)[k]!))) (cs := (Enc.cells ((ids_f v.support)[k]! : Int))) rfl rfl rfl rfl rfl rfl (fun _ => rfl) rfl si3 zs3 (Enc.one _) ?_
      intro b8 w8 hb8 hB8 hx8
      have hbb8_hT0 := Nat.le_trans hT0.size hb8
      have hbb8_hT6 := Nat.le_trans hT6.size hb8
      have hT0 := grown_ext hT0 hx8
      have hT6 := grown_ext hT6 hx8
      have hq_s := hq_s.ext hx8
      have hR_s := hR_s.ext hx8
      have hM_d := hM_d.ext hx8
      have hB1 := hB1.ext hx8
      have hR4 := hR4.ext hx8
      have hM6_bw := hM6_bw.ext hx8
      refine L.nil ?_
      refine thenF_nor ?_
      refine W.seq ?_
      refine W.region (by rfl) ?_
      refine L.val rfl (op_move rfl s6_0) ?_
      refine L.val rfl (op_func rfl (argsC rfl (argsC s6_3 argsN))) ?_
      refine L.step rfl (OpS.call (op_call rfl (argsC rfl (argsC rfl argsN)) Try.func70 rfl rfl) (least_ok hq_s hR_s hM6_bw hM_d hne_bd_bw (⟨_, [(.pointer (some ⟨b8, 0, none⟩)), (.pointer (some ⟨b1, 0, none⟩))], _, rfl, Try.func124, rfl, rfl, fun xx ww hxx => (later1_ok (hB8.cells.ext hxx) (hB1.cells.ext hxx) (by first | omega | (simp only [List.length_drop, List.length_take, List.length_append, List.length_cons, List.length_nil] at *; omega)) (by first | omega | (simp only [List.length_drop, List.length_take, List.length_append, List.length_cons, List.length_nil] at *; omega)))⟩ : Fits _ _ _ (fun xx => later1_f xx ((ids_f v.support)[k]!) v)))) ?_
      rintro _ w9 ⟨rfl, hM9, hg9⟩
      have hnc9 := hM6_bw.nc
      have hT0 := grown_trans hT0 hg9
      have hT6 := grown_trans hT6 hg9
      have hq_s := hq_s.farM hnc9 hg9
      have hR_s := hR_s.farM hnc9 hg9
      have hM_d := hM_d.farM hne_bd_bw hg9
      have hB1 := hB1.farM hnc9 hg9
      have hR4 := hR4.farM hnc9 hg9
      have hB8 := hB8.farM hnc9 hg9
      refine L.val rfl (op_move rfl rfl) ?_
      refine L.val rfl (op_extract rfl rfl rfl) ?_
      refine L.val rfl (op_extract rfl rfl rfl) ?_
      refine L.newvar (v := (Enc.val ((all.find? (fun xx => later1_f xx ((ids_f v.support)[k]!) v)).getD vt0))) (cs := (Enc.cells ((all.find? (fun xx => later1_f xx ((ids_f v.support)[k]!) v)).getD vt0))) rfl rfl rfl rfl rfl rfl (fun _ => rfl) rfl si28 zs28 (Enc.one _) ?_
      intro b10 w10 hb10 hB10 hx10
      have hbb10_hT0 := Nat.le_trans hT0.size hb10
      have hbb10_hT6 := Nat.le_trans hT6.size hb10
      have hT0 := grown_ext hT0 hx10
      have hT6 := grown_ext hT6 hx10
      have hq_s := hq_s.ext hx10
      have hR_s := hR_s.ext hx10
      have hM_d := hM_d.ext hx10
      have hB1 := hB1.ext hx10
      have hR4 := hR4.ext hx10
      have hB8 := hB8.ext hx10
      have hM9 := hM9.ext hx10
      refine L.val rfl (op_assign rfl rfl) ?_
      refine L.nil ?_
      refine thenF_nor ?_
      refine W.seq ?_
      refine W.region (by rfl) ?_
      refine L.val rfl (op_move rfl rfl) ?_
      refine L.val rfl (op_not rfl rfl) ?_
      refine L.nil ?_
      refine thenF_nor ?_
      refine W.cond (t := !((all.find? (fun xx => later1_f xx ((ids_f v.support)[k]!) v)).isSome)) rfl (fun hc11 => ?_) (fun hc11 => ?_)
      · have hp11 := hc11
        simp only [Bool.and_eq_true, Bool.or_eq_true, Bool.and_eq_false_iff, Bool.or_eq_false_iff, Bool.not_eq_true', Bool.not_eq_false', decide_eq_true_eq, decide_eq_false_iff_not] at hp11
        obtain ⟨hfd, hla⟩ := la_none hc11
        refine W.region (by rfl) ?_
        refine L.val rfl (op_move rfl s6_0) ?_
        refine L.val rfl (op_load1 rfl rfl one3 (hB8.cells.one (n := 0) rfl)) ?_
        refine L.val rfl (op_field rfl s6_3 fo28_2 rfl) ?_
        refine L.val rfl (op_load1 rfl rfl one3 (hB1.cells.one (n := 2) rfl)) ?_
        refine L.val rfl (op_sub rfl rfl rfl rfl (by omega)) ?_
        refine L.step rfl (OpS.call (op_call rfl (argsC rfl (argsC rfl (argsC rfl argsN))) Try.func125 rfl rfl) (leastMixed_ok hq_s hR_s hM9 hM_d hne_bd_bw)) ?_
        rintro _ w12 ⟨hM12, hg12⟩
        have hnc12 := hM9.nc
        have hT0 := grown_trans hT0 hg12
        have hT6 := grown_trans hT6 hg12
        have hq_s := hq_s.farM hnc12 hg12
        have hR_s := hR_s.farM hnc12 hg12
        have hM_d := hM_d.farM hne_bd_bw hg12
        have hB1 := hB1.farM hnc12 hg12
        have hR4 := hR4.farM hnc12 hg12
        have hB8 := hB8.farM hnc12 hg12
        have hB10 := hB10.farM hnc12 hg12
        refine L.nil ?_
        refine blockF_nor ?_
        refine thenF_nor ?_
        refine W.region (by rfl) ?_
        refine L.val rfl (op_add (c := ((k + 1 : Nat) : Int)) rfl s6_17 rfl (by omega) (by omega)) ?_
        refine L.val rfl (op_move rfl rfl) ?_
        refine L.nil ?_
        refine thenF_nor ?_
        exact ⟨k + 1, ⟨(by (try dsimp only); omega), s6_0, s6_3, s6_15, s6_16, rfl, (by rw [wants_go (g := (la_g all v)) (by omega), hla]; first | exact hM12 | (have h := hM12; rw [hfd] at h; exact h)), hT6⟩, (by (try dsimp only); omega)⟩
      · have hp11 := hc11
        simp only [Bool.and_eq_true, Bool.or_eq_true, Bool.and_eq_false_iff, Bool.or_eq_false_iff, Bool.not_eq_true', Bool.not_eq_false', decide_eq_true_eq, decide_eq_false_iff_not] at hp11
        have hla := la_some hc11
        have hfd := True.intro
        refine W.skip ?_
        refine blockF_nor ?_
        refine thenF_nor ?_
        refine W.region (by rfl) ?_
        refine L.val rfl (op_add (c := ((k + 1 : Nat) : Int)) rfl s6_17 rfl (by omega) (by omega)) ?_
        refine L.val rfl (op_move rfl rfl) ?_
        refine L.nil ?_
        refine thenF_nor ?_
        exact ⟨k + 1, ⟨(by (try dsimp only); omega), s6_0, s6_3, s6_15, s6_16, rfl, (by rw [wants_go (g := (la_g all v)) (by omega), hla]; first | exact hM9 | (have h := hM9; rw [hfd] at h; exact h)), hT6⟩, (by (try dsimp only); omega)⟩
    · have hp7 := hc7
      simp only [Bool.and_eq_true, Bool.or_eq_true, Bool.and_eq_false_iff, Bool.or_eq_false_iff, Bool.not_eq_true', Bool.not_eq_false', decide_eq_true_eq, decide_eq_false_iff_not] at hp7
      have hkl : k = (ids_f v.support).length := by omega
      rw [hkl, List.take_length] at hM6_bw
      refine W.exit ?_
      refine thenF_exit ?_
      refine thenF_exit ?_
      refine blockF_hit ?_
      refine thenF_nor ?_
      refine W.ret ?_
      refine thenF_ret ?_
      exact end_ret0 rfl ⟨(by unfold later_n; rw [hc3]; exact hM6_bw), hT0⟩
  · have hp3 := hc3
    refine W.skip ?_
    refine thenF_nor ?_
    refine W.seq ?_
    refine W.seq ?_
    refine W.region (by rfl) ?_
    refine L.val rfl (op_field rfl rfl fo28_5 rfl) ?_
    refine L.val rfl (op_load1 rfl rfl one22 (hB1.cells.one (n := 5) rfl)) ?_
    refine L.step rfl (OpS.call (op_call rfl (argsC rfl argsN) Try.func44 rfl rfl) IDs_ok) ?_
    rintro _ w13 ⟨⟨A13, c13, lo13, hi13, rfl, hcap13, hR13⟩, hx13⟩
    have hT0 := grown_ext hT0 hx13
    have hq_s := hq_s.ext hx13
    have hR_s := hR_s.ext hx13
    have hM_w := hM_w.ext hx13
    have hM_d := hM_d.ext hx13
    have hB1 := hB1.ext hx13
    have hlen13 := hR13.len
    refine L.val rfl (op_len rfl rfl ln57) ?_
    refine L.val rfl (op_move rfl rfl) ?_
    refine L.nil ?_
    refine thenF_nor ?_
    refine W.block ?_
    have S14_hq_s := hq_s
    have S14_hR_s := hR_s
    have S14_hM_w := hM_w
    have S14_hM_d := hM_d
    have S14_hB1 := hB1
    have S14_hR13 := hR13
    have S14_hT0 := hT0
    have hS14 : Ext w13 w13 := Ext.refl _
    refine W.loopg (γ := Nat) (fun (k : Nat) (f : Fr) (ww : World) => k ≤ (ids_f v.support).length ∧ f 0 = (.pointer (some q_s)) ∧ f 3 = (.pointer (some ⟨b1, 0, none⟩)) ∧ f 38 = (.slice A13 (ids_f v.support).length c13) ∧ f 39 = (.int .i64 ((ids_f v.support).length : Int)) ∧ f 40 = (.int .i64 ((k : Nat) : Int)) ∧ Mp ww bw (wants ld lw (((ids_f v.support).take k).filterMap (lm_g all (v.round - 1))) : List (Vt × Int)) ∧ w13.grownBy ww (some bw)) (fun (k : Nat) => (ids_f v.support).length - k) 0 ⟨(by (try dsimp only); omega), rfl, rfl, rfl, rfl, rfl, hM_w, (grown_refl _ _)⟩ ?_
    rintro k f15 w15 ⟨hk, s15_0, s15_3, s15_38, s15_39, s15_40, hM15_bw, hT15⟩
    have hnc15 := S14_hM_w.nc
    have hq_s := S14_hq_s.farM hnc15 hT15
    have hR_s := S14_hR_s.farM hnc15 hT15
    have hM_d := S14_hM_d.farM hne_bd_bw hT15
    have hB1 := S14_hB1.farM hnc15 hT15
    have hR13 := S14_hR13.farM hnc15 hT15
    have hT0 := grown_trans S14_hT0 hT15
    refine W.seq ?_
    refine W.region (by rfl) ?_
    refine L.val rfl (op_lss rfl s15_40 s15_39) ?_
    refine L.nil ?_
    refine thenF_nor ?_
    refine W.seq ?_
    refine W.cond (t := decide (((k : Nat) : Int) < ((ids_f v.support).length : Int))) rfl (fun hc16 => ?_) (fun hc16 => ?_)
    · have hp16 := hc16
      simp only [Bool.and_eq_true, Bool.or_eq_true, Bool.and_eq_false_iff, Bool.or_eq_false_iff, Bool.not_eq_true', Bool.not_eq_false', decide_eq_true_eq, decide_eq_false_iff_not] at hp16
      refine W.skip ?_
      refine thenF_nor ?_
      refine W.seq ?_
      refine W.block ?_
      refine W.seq ?_
      refine W.region (by rfl) ?_
      refine L.val rfl (op_index (k := k) rfl s15_38 s15_40 sl57 (hR13.getA (get_bang (l := ids_f v.support) (k := k) (by omega))).1 rfl (by omega) rfl) ?_
      refine L.val rfl (op_load1 rfl rfl one3 ((hR13.getA (get_bang (l := ids_f v.support) (k := k) (by omega))).2.one (n := 0) rfl)) ?_
      refine L.val rfl (op_assign rfl rfl) ?_
      refine L.nil ?_
      refine thenF_nor ?_
      refine W.region (by rfl) ?_
      refine L.val rfl (op_move rfl s15_0) ?_
      refine L.val rfl (op_move rfl rfl) ?_
      refine L.val rfl (op_field rfl s15_3 fo28_2 rfl) ?_
      refine L.val rfl (op_load1 rfl rfl one3 (hB1.cells.one (n := 2) rfl)) ?_
      refine L.val rfl (op_sub rfl rfl rfl rfl (by omega)) ?_
      refine L.step rfl (OpS.call (op_call rfl (argsC rfl (argsC rfl (argsC rfl argsN))) Try.func125 rfl rfl) (leastMixed_ok hq_s hR_s hM15_bw hM_d hne_bd_bw)) ?_
      rintro _ w17 ⟨hM17, hg17⟩
      have hnc17 := hM15_bw.nc
      have hT0 := grown_trans hT0 hg17
      have hT15 := grown_trans hT15 hg17
      have hq_s := hq_s.farM hnc17 hg17
      have hR_s := hR_s.farM hnc17 hg17
      have hM_d := hM_d.farM hne_bd_bw hg17
      have hB1 := hB1.farM hnc17 hg17
      have hR13 := hR13.farM hnc17 hg17
      refine L.nil ?_
      refine blockF_nor ?_
      refine thenF_nor ?_
      refine W.region (by rfl) ?_
      refine L.val rfl (op_add (c := ((k + 1 : Nat) : Int)) rfl s15_40 rfl (by omega) (by omega)) ?_
      refine L.val rfl (op_move rfl rfl) ?_
      refine L.nil ?_
      refine thenF_nor ?_
      exact ⟨k + 1, ⟨(by (try dsimp only); omega), s15_0, s15_3, s15_38, s15_39, rfl, (by rw [wants_go (g := (lm_g all (v.round - 1))) (by omega)]; exact hM17), hT15⟩, (by (try dsimp only); omega)⟩
    · have hp16 := hc16
      simp only [Bool.and_eq_true, Bool.or_eq_true, Bool.and_eq_false_iff, Bool.or_eq_false_iff, Bool.not_eq_true', Bool.not_eq_false', decide_eq_true_eq, decide_eq_false_iff_not] at hp16
      have hkl : k = (ids_f v.support).length := by omega
      rw [hkl, List.take_length] at hM15_bw
      refine W.exit ?_
      refine thenF_exit ?_
      refine thenF_exit ?_
      refine blockF_hit ?_
      refine thenF_nor ?_
      refine W.region (by rfl) ?_
      refine L.val rfl (op_move rfl s15_0) ?_
      refine L.val rfl (op_func rfl (argsC s15_3 argsN)) ?_
      refine L.step rfl (OpS.call (op_call rfl (argsC rfl (argsC rfl argsN)) Try.func70 rfl rfl) (least_ok hq_s hR_s hM15_bw hM_d hne_bd_bw (⟨_, [(.pointer (some ⟨b1, 0, none⟩))], _, rfl, Try.func126, rfl, rfl, fun xx ww hxx => (later2_ok (hB1.cells.ext hxx) (by first | omega | (simp only [List.length_drop, List.length_take, List.length_append, List.length_cons, List.length_nil] at *; omega)) (by first | omega | (simp only [List.length_drop, List.length_take, List.length_append, List.length_cons, List.length_nil] at *; omega)))⟩ : Fits _ _ _ (fun xx => later2_f xx v)))) ?_
      rintro _ w18 ⟨rfl, hM18, hg18⟩
      have hnc18 := hM15_bw.nc
      have hT0 := grown_trans hT0 hg18
      have hT15 := grown_trans hT15 hg18
      have hq_s := hq_s.farM hnc18 hg18
      have hR_s := hR_s.farM hnc18 hg18
      have hM_d := hM_d.farM hne_bd_bw hg18
      have hB1 := hB1.farM hnc18 hg18
      have hR13 := hR13.farM hnc18 hg18
      refine L.nil ?_
      exact end_nor0 rfl ⟨(by unfold later_n; rw [hc3, cond_false, wants_append, wants_one]; exact hM18), hT0⟩

end Go.Proofs.Ytdknjfmjddlphaa
