/-
  Contracts of functions of the program, each with its walk in the logic of frames. Printed by a program of this session (wip/gen) from the translation.
-/
import Derived.Test.YtdknjfmjddlphaaZd
import Derived.Test.YtdknjfmjddlphaaGA
import Derived.Test.YtdknjfmjddlphaaLaw12b
set_option linter.unusedSimpArgs false
set_option linter.unusedVariables false
namespace Go.Proofs.Ytdknjfmjddlphaa
open Go Go.Fk

set_option maxRecDepth 100000 in
theorem cut12_ok {A_l : Option Addr} {c_l lo_l hi_l : Nat} {l : List Vt}  {w : World} (hR_l : Rd w lo_l hi_l A_l l) (hcap_l : l.length ≤ c_l) : Gives Try.prog 24 #[(.slice A_l l.length c_l)] w fun u w' => SlR w' u (l.take 250 : List Vt) ∧ Ext w w' := by
  have hE : Ext w w := Ext.refl w
  have hlen_l := hR_l.len
  refine gives_of_W Try.func24 rfl Try.ntmps24 rfl ?_
  refine W.seq ?_
  refine W.region (by rfl) ?_
  refine L.val rfl (op_assign rfl rfl) ?_
  refine L.nil ?_
  refine thenF_nor ?_
  refine W.seq ?_
  refine W.seq ?_
  refine W.region (by rfl) ?_
  refine L.val rfl (op_move rfl rfl) ?_
  refine L.val rfl (op_len rfl rfl ln25) ?_
  refine L.val rfl (op_gtr rfl rfl rfl) ?_
  refine L.nil ?_
  refine thenF_nor ?_
  refine W.cond (t := decide (250 < (l.length : Int))) rfl (fun hc1 => ?_) (fun hc1 => ?_)
  · have hp1 := hc1
    simp only [Bool.and_eq_true, Bool.or_eq_true, Bool.and_eq_false_iff, Bool.or_eq_false_iff, Bool.not_eq_true', Bool.not_eq_false', decide_eq_true_eq, decide_eq_false_iff_not] at hp1
    refine W.seq ?_
    refine W.region (by rfl) ?_
    refine L.val rfl (op_move rfl rfl) ?_
    refine L.step rfl (op_slr_h (k := 250) sl25 rfl rfl rfl (by omega) hcap_l hR_l) ?_
    rintro _ w2 ⟨⟨A2, c2, lo2, hi2, rfl, hcap2, hR2⟩, hx2⟩
    have hE := hE.trans hx2
    have hR_l := hR_l.ext hx2
    have hlen2 := hR2.len
    refine L.val rfl (op_assign rfl rfl) ?_
    refine L.nil ?_
    refine thenF_nor ?_
    refine W.ret ?_
    refine thenF_ret ?_
    exact end_ret1 (v := (.slice A2 (l.take 250).length c2)) rfl rfl ⟨(⟨_, _, _, _, rfl, hcap2, hR2⟩ : SlR _ _ _), hE⟩
  · have hp1 := hc1
    simp only [Bool.and_eq_true, Bool.or_eq_true, Bool.and_eq_false_iff, Bool.or_eq_false_iff, Bool.not_eq_true', Bool.not_eq_false', decide_eq_true_eq, decide_eq_false_iff_not] at hp1
    refine W.skip ?_
    refine thenF_nor ?_
    refine W.seq ?_
    refine W.region (by rfl) ?_
    refine L.val rfl (op_move rfl rfl) ?_
    refine L.val rfl (op_assign rfl rfl) ?_
    refine L.nil ?_
    refine thenF_nor ?_
    refine W.ret ?_
    exact end_ret1 (v := (.slice A_l l.length c_l)) rfl rfl ⟨(by rw [List.take_of_length_le (by omega)]; exact (⟨_, _, _, _, rfl, hcap_l, hR_l⟩ : SlR _ _ _)), hE⟩

set_option maxRecDepth 100000 in
theorem outcomes12_ok {A_a : Option Addr} {c_a lo_a hi_a : Nat} {a : List Oc} {A_b : Option Addr} {c_b lo_b hi_b : Nat} {b : List Oc}  {w : World} (hR_a : Rd w lo_a hi_a A_a a) (hR_b : Rd w lo_b hi_b A_b b) : Gives Try.prog 25 #[(.slice A_a a.length c_a), (.slice A_b b.length c_b)] w fun u w' => u = (.bool (decide (a = b))) ∧ Ext w w' := by
  have hE : Ext w w := Ext.refl w
  have hlen_a := hR_a.len
  have hlen_b := hR_b.len
  refine gives_of_W Try.func25 rfl Try.ntmps25 rfl ?_
  refine W.seq ?_
  refine W.region (by rfl) ?_
  refine L.val (v := (.bool false)) rfl (op_assign rfl rfl) ?_
  refine L.nil ?_
  refine thenF_nor ?_
  refine W.seq ?_
  refine W.seq ?_
  refine W.region (by rfl) ?_
  refine L.val rfl (op_move rfl rfl) ?_
  refine L.val rfl (op_len rfl rfl ln37) ?_
  refine L.val rfl (op_move rfl rfl) ?_
  refine L.val rfl (op_len rfl rfl ln37) ?_
  refine L.val rfl (op_neq rfl rfl rfl) ?_
  refine L.nil ?_
  refine thenF_nor ?_
  refine W.cond (t := !decide ((a.length : Int) = (b.length : Int))) rfl (fun hc1 => ?_) (fun hc1 => ?_)
  · have hp1 := hc1
    simp only [Bool.and_eq_true, Bool.or_eq_true, Bool.and_eq_false_iff, Bool.or_eq_false_iff, Bool.not_eq_true', Bool.not_eq_false', decide_eq_true_eq, decide_eq_false_iff_not] at hp1
    have hres : decide (a = b) = false := decide_eq_false (fun e => by subst e; omega)
    refine W.seq ?_
    refine W.region (by rfl) ?_
    refine L.val (v := (.bool false)) rfl (op_assign rfl rfl) ?_
    refine L.nil ?_
    refine thenF_nor ?_
    refine W.ret ?_
    refine thenF_ret ?_
    exact end_ret1 (v := (.bool false)) rfl rfl ⟨(by rw [hres]), hE⟩
  · have hp1 := hc1
    simp only [Bool.and_eq_true, Bool.or_eq_true, Bool.and_eq_false_iff, Bool.or_eq_false_iff, Bool.not_eq_true', Bool.not_eq_false', decide_eq_true_eq, decide_eq_false_iff_not] at hp1
    have hll : a.length = b.length := by omega
    refine W.skip ?_
    refine thenF_nor ?_
    refine W.seq ?_
    refine W.seq ?_
    refine W.region (by rfl) ?_
    refine L.val rfl (op_assign rfl rfl) ?_
    refine L.nil ?_
    refine thenF_nor ?_
    refine W.block ?_
    have S2_hR_a := hR_a
    have S2_hR_b := hR_b
    have S2_hE := hE
    have hS2 : Ext w w := Ext.refl _
    refine W.loopg (γ := Nat) (fun (k : Nat) (f : Fr) (ww : World) => k ≤ a.length ∧ a.take k = b.take k ∧ f 0 = (.slice A_a a.length c_a) ∧ f 1 = (.slice A_b b.length c_b) ∧ f 5 = (.int .i64 ((k : Nat) : Int)) ∧ Ext w ww) (fun (k : Nat) => a.length - k) 0 ⟨(by (try dsimp only); omega), rfl, rfl, rfl, rfl, hS2⟩ ?_
    rintro k f3 w3 ⟨hk, hsm, s3_0, s3_1, s3_5, hS2⟩
    have hR_a := S2_hR_a.ext hS2
    have hR_b := S2_hR_b.ext hS2
    have hE := S2_hE.trans hS2
    refine W.seq ?_
    refine W.seq ?_
    refine W.region (by rfl) ?_
    refine L.val rfl (op_move rfl s3_5) ?_
    refine L.val rfl (op_move rfl s3_0) ?_
    refine L.val rfl (op_len rfl rfl ln37) ?_
    refine L.val rfl (op_lss rfl rfl rfl) ?_
    refine L.nil ?_
    refine thenF_nor ?_
    refine W.cond (t := decide (((k : Nat) : Int) < (a.length : Int))) rfl (fun hc4 => ?_) (fun hc4 => ?_)
    · have hp4 := hc4
      simp only [Bool.and_eq_true, Bool.or_eq_true, Bool.and_eq_false_iff, Bool.or_eq_false_iff, Bool.not_eq_true', Bool.not_eq_false', decide_eq_true_eq, decide_eq_false_iff_not] at hp4
      refine W.skip ?_
      refine thenF_nor ?_
      refine W.seq ?_
      refine W.block ?_
      refine W.seq ?_
      refine W.drawS [Sp.eq (.slice A_a a.length c_a), Sp.eq (.int .i64 ((k : Nat) : Int)), Sp.eq (.pointer (some ((adr A_a).add (k * 11)))), Sp.eq (Enc.val (a[k]! : Oc)), Sp.eq (.slice A_b b.length c_b), Sp.eq (.int .i64 ((k : Nat) : Int)), Sp.eq (.pointer (some ((adr A_b).add (k * 11)))), Sp.eq (Enc.val (b[k]! : Oc)), Sp.eq (.bool (!decide (a[k]! = b[k]!)))] mixed (by rfl) (Obls.cons ?_ (Obls.cons ?_ (Obls.cons ?_ (Obls.cons ?_ (Obls.cons ?_ (Obls.cons ?_ (Obls.cons ?_ (Obls.cons ?_ (Obls.cons ?_ Obls.nil))))))))) ?_
      · intro f6 w6 hx6 ho6 hd6
        have d6_s0 : f6 0 = (.slice A_a a.length c_a) := (ho6 0 rfl).trans s3_0
        exact D.val rfl (op_move rfl d6_s0)
      · intro f7 w7 hx7 ho7 hd7
        have d7_s5 : f7 5 = (.int .i64 ((k : Nat) : Int)) := (ho7 5 rfl).trans s3_5
        exact D.val rfl (op_move rfl d7_s5)
      · intro f8 w8 hx8 ho8 hd8
        have d8_0 : f8 17 = (.slice A_a a.length c_a) := hd8 0 rfl
        have d8_1 : f8 18 = (.int .i64 ((k : Nat) : Int)) := hd8 1 rfl
        have hR_a := hR_a.ext hx8
        have hR_b := hR_b.ext hx8
        skip
        exact D.val rfl (op_index (k := k) rfl d8_0 d8_1 sl37 (hR_a.getA (get_bang (l := a) (k := k) (by omega))).1 rfl (by omega) rfl)
      · intro f9 w9 hx9 ho9 hd9
        have d9_2 : f9 19 = (.pointer (some ((adr A_a).add (k * 11)))) := hd9 2 rfl
        have hR_a := hR_a.ext hx9
        have hR_b := hR_b.ext hx9
        skip
        exact D.val rfl (op_load (v := (a[k]! : Oc)) rfl d9_2 ty49 (hR_a.getA (get_bang (l := a) (k := k) (by omega))).2)
      · intro f10 w10 hx10 ho10 hd10
        have d10_s1 : f10 1 = (.slice A_b b.length c_b) := (ho10 1 rfl).trans s3_1
        exact D.val rfl (op_move rfl d10_s1)
      · intro f11 w11 hx11 ho11 hd11
        have d11_s5 : f11 5 = (.int .i64 ((k : Nat) : Int)) := (ho11 5 rfl).trans s3_5
        exact D.val rfl (op_move rfl d11_s5)
      · intro f12 w12 hx12 ho12 hd12
        have d12_4 : f12 21 = (.slice A_b b.length c_b) := hd12 4 rfl
        have d12_5 : f12 22 = (.int .i64 ((k : Nat) : Int)) := hd12 5 rfl
        have hR_a := hR_a.ext hx12
        have hR_b := hR_b.ext hx12
        skip
        exact D.val rfl (op_index (k := k) rfl d12_4 d12_5 sl37 (hR_b.getA (get_bang (l := b) (k := k) (by omega))).1 rfl (by omega) rfl)
      · intro f13 w13 hx13 ho13 hd13
        have d13_6 : f13 23 = (.pointer (some ((adr A_b).add (k * 11)))) := hd13 6 rfl
        have hR_a := hR_a.ext hx13
        have hR_b := hR_b.ext hx13
        skip
        exact D.val rfl (op_load (v := (b[k]! : Oc)) rfl d13_6 ty49 (hR_b.getA (get_bang (l := b) (k := k) (by omega))).2)
      · intro f14 w14 hx14 ho14 hd14
        have d14_3 : f14 20 = (Enc.val (a[k]! : Oc)) := hd14 3 rfl
        have d14_7 : f14 24 = (Enc.val (b[k]! : Oc)) := hd14 7 rfl
        exact D.val rfl (op_neqe (a := (a[k]! : Oc)) (b := (b[k]! : Oc)) rfl d14_3 d14_7 eq49 (fun _ => ⟨_, rfl⟩) Try.eqGuardType49)
      intro f15 w15 hx15 ho15 hr15
      have s0 : f15 0 = (.slice A_a a.length c_a) := (ho15 0 rfl).trans s3_0
      have s1 : f15 1 = (.slice A_b b.length c_b) := (ho15 1 rfl).trans s3_1
      have s5 : f15 5 = (.int .i64 ((k : Nat) : Int)) := (ho15 5 rfl).trans s3_5
      have s14 : f15 14 = (.bool (decide (((k : Nat) : Int) < (a.length : Int)))) := ho15 14 rfl
      have s25 : f15 25 = (.bool (!decide (a[k]! = b[k]!))) := hr15 8 (by decide)
      have hE := hE.trans hx15
      have hS2 := hS2.trans hx15
      have hR_a := hR_a.ext hx15
      have hR_b := hR_b.ext hx15
      refine thenF_nor ?_
      refine W.cond (t := !decide (a[k]! = b[k]!)) s25 (fun hc16 => ?_) (fun hc16 => ?_)
      · have hp16 := hc16
        simp only [Bool.and_eq_true, Bool.or_eq_true, Bool.and_eq_false_iff, Bool.or_eq_false_iff, Bool.not_eq_true', Bool.not_eq_false', decide_eq_true_eq, decide_eq_false_iff_not] at hp16
        have hne := hc16
        simp only [Bool.not_eq_true', decide_eq_false_iff_not] at hne
        have hres : decide (a = b) = false := decide_eq_false (fun e => hne (by rw [e]))
        refine W.seq ?_
        refine W.region (by rfl) ?_
        refine L.val (v := (.bool false)) rfl (op_assign rfl rfl) ?_
        refine L.nil ?_
        refine thenF_nor ?_
        refine W.ret ?_
        refine blockF_ret ?_
        refine thenF_ret ?_
        refine thenF_ret ?_
        refine blockF_ret ?_
        refine thenF_ret ?_
        exact end_ret1 (v := (.bool false)) rfl rfl ⟨(by rw [hres]), hE⟩
      · have hp16 := hc16
        simp only [Bool.and_eq_true, Bool.or_eq_true, Bool.and_eq_false_iff, Bool.or_eq_false_iff, Bool.not_eq_true', Bool.not_eq_false', decide_eq_true_eq, decide_eq_false_iff_not] at hp16
        have heq := hc16
        simp only [Bool.not_eq_false', decide_eq_true_eq] at heq
        refine W.skip ?_
        refine blockF_nor ?_
        refine thenF_nor ?_
        refine W.region (by rfl) ?_
        refine L.val rfl (op_move rfl s5) ?_
        refine L.val rfl (op_add (c := ((k + 1 : Nat) : Int)) rfl rfl rfl (by omega) (by omega)) ?_
        refine L.val rfl (op_assign rfl rfl) ?_
        refine L.nil ?_
        refine thenF_nor ?_
        exact ⟨k + 1, ⟨(by (try dsimp only); omega), (by rw [take_bang (by omega), take_bang (by omega), hsm, heq]), s0, s1, rfl, hS2⟩, (by (try dsimp only); omega)⟩
    · have hp4 := hc4
      simp only [Bool.and_eq_true, Bool.or_eq_true, Bool.and_eq_false_iff, Bool.or_eq_false_iff, Bool.not_eq_true', Bool.not_eq_false', decide_eq_true_eq, decide_eq_false_iff_not] at hp4
      have hres : decide (a = b) = true := decide_eq_true (by rw [← List.take_of_length_le (l := a) (i := k) (by omega), hsm, List.take_of_length_le (by omega)])
      refine W.exit ?_
      refine thenF_exit ?_
      refine thenF_exit ?_
      refine blockF_hit ?_
      refine thenF_nor ?_
      refine W.seq ?_
      refine W.region (by rfl) ?_
      refine L.val (v := (.bool true)) rfl (op_assign rfl rfl) ?_
      refine L.nil ?_
      refine thenF_nor ?_
      refine W.ret ?_
      exact end_ret1 (v := (.bool true)) rfl rfl ⟨(by rw [hres]), hE⟩

set_option maxRecDepth 100000 in
set_option maxHeartbeats 4000000 in
theorem torn12_ok {m : Int} {parent : Nm} {A_a : Option Addr} {c_a lo_a hi_a : Nat} {a : List Vt} {A_b : Option Addr} {c_b lo_b hi_b : Nat} {b : List Vt}  {w : World} (hR_a : Rd w lo_a hi_a A_a a) (hR_b : Rd w lo_b hi_b A_b b) : Gives Try.prog 36 #[(.int .i64 m), (Enc.val (parent : Nm)), (.slice A_a a.length c_a), (.slice A_b b.length c_b)] w fun u w' => u = (.int .i64 (torn_f m parent a b)) ∧ Ext w w' := by
  have hE : Ext w w := Ext.refl w
  have hlen_a := hR_a.len
  have hlen_b := hR_b.len
  refine gives_of_W Try.func36 rfl Try.ntmps36 rfl ?_
  refine W.seq ?_
  refine W.region (by rfl) ?_
  refine L.step rfl (op_box (cs := (Enc.cells (parent : Nm))) rfl rfl rfl) ?_
  rintro _ w1 ⟨b1, rfl, hb1, hB1, hx1⟩
  have hE := hE.trans hx1
  have hR_a := hR_a.ext hx1
  have hR_b := hR_b.ext hx1
  refine L.val rfl (op_assign rfl rfl) ?_
  refine L.nil ?_
  refine thenF_nor ?_
  refine W.seq ?_
  refine W.region (by rfl) ?_
  refine L.val rfl (op_assign rfl rfl) ?_
  refine L.nil ?_
  refine thenF_nor ?_
  refine W.seq ?_
  refine W.seq ?_
  refine W.region (by rfl) ?_
  refine L.val rfl (op_assign rfl rfl) ?_
  refine L.nil ?_
  refine thenF_nor ?_
  refine W.block ?_
  have S2_hR_a := hR_a
  have S2_hR_b := hR_b
  have S2_hB1 := hB1
  have S2_hE := hE
  have hS2 : Ext w1 w1 := Ext.refl _
  refine W.loopg (γ := Nat × Int) (fun (g : Nat × Int) (f : Fr) (ww : World) => g.1 ≤ a.length ∧ (a.take g.1).foldl (fun acc x => b.foldl (tornStep m parent x) acc) 0 = g.2 ∧ f 0 = (.int .i64 m) ∧ f 2 = (.slice A_a a.length c_a) ∧ f 3 = (.slice A_b b.length c_b) ∧ f 5 = (.pointer (some ⟨b1, 0, none⟩)) ∧ f 8 = (.int .i64 0) ∧ f 10 = (.int .i64 ((g.1 : Nat) : Int)) ∧ f 9 = (.int .i64 g.2) ∧ Ext w1 ww) (fun (g : Nat × Int) => a.length - g.1) (0, 0) ⟨(by (try dsimp only); omega), rfl, rfl, rfl, rfl, rfl, rfl, rfl, rfl, hS2⟩ ?_
  rintro ⟨i, t⟩ f3 w3 ⟨hi, hti, s3_0, s3_2, s3_3, s3_5, s3_8, s3_10, s3_9, hS2⟩
  dsimp only at hi hti s3_0 s3_2 s3_3 s3_5 s3_8 s3_10 s3_9 hS2
  have hR_a := S2_hR_a.ext hS2
  have hR_b := S2_hR_b.ext hS2
  have hB1 := S2_hB1.ext hS2
  have hE := S2_hE.trans hS2
  refine W.seq ?_
  refine W.seq ?_
  refine W.region (by rfl) ?_
  refine L.val rfl (op_move rfl s3_10) ?_
  refine L.val rfl (op_move rfl s3_2) ?_
  refine L.val rfl (op_len rfl rfl ln25) ?_
  refine L.val rfl (op_lss rfl rfl rfl) ?_
  refine L.nil ?_
  refine thenF_nor ?_
  refine W.cond (t := decide (((i : Nat) : Int) < (a.length : Int))) rfl (fun hc4 => ?_) (fun hc4 => ?_)
  · have hp4 := hc4
    simp only [Bool.and_eq_true, Bool.or_eq_true, Bool.and_eq_false_iff, Bool.or_eq_false_iff, Bool.not_eq_true', Bool.not_eq_false', decide_eq_true_eq, decide_eq_false_iff_not] at hp4
    refine W.skip ?_
    refine thenF_nor ?_
    refine W.seq ?_
    refine W.block ?_
    refine W.seq ?_
    refine W.region (by rfl) ?_
    refine L.val rfl (op_assign rfl rfl) ?_
    refine L.nil ?_
    refine thenF_nor ?_
    refine W.block ?_
    have S5_hR_a := hR_a
    have S5_hR_b := hR_b
    have S5_hB1 := hB1
    have S5_hE := hE
    have S5_hS2 := hS2
    have hS5 : Ext w3 w3 := Ext.refl _
    refine W.loopg (γ := Nat × Int) (fun (g : Nat × Int) (f : Fr) (ww : World) => g.1 ≤ b.length ∧ (b.take g.1).foldl (tornStep m parent a[i]!) t = g.2 ∧ f 0 = (.int .i64 m) ∧ f 2 = (.slice A_a a.length c_a) ∧ f 3 = (.slice A_b b.length c_b) ∧ f 5 = (.pointer (some ⟨b1, 0, none⟩)) ∧ f 8 = (.int .i64 0) ∧ f 10 = (.int .i64 ((i : Nat) : Int)) ∧ f 15 = (.bool (decide (((i : Nat) : Int) < (a.length : Int)))) ∧ f 11 = (.int .i64 ((g.1 : Nat) : Int)) ∧ f 9 = (.int .i64 g.2) ∧ Ext w3 ww) (fun (g : Nat × Int) => b.length - g.1) (0, t) ⟨(by (try dsimp only); omega), rfl, s3_0, s3_2, s3_3, s3_5, s3_8, s3_10, rfl, rfl, s3_9, hS5⟩ ?_
    rintro ⟨k, t2⟩ f6 w6 ⟨hk, hst, s6_0, s6_2, s6_3, s6_5, s6_8, s6_10, s6_15, s6_11, s6_9, hS5⟩
    dsimp only at hk hst s6_0 s6_2 s6_3 s6_5 s6_8 s6_10 s6_15 s6_11 s6_9 hS5
    have hR_a := S5_hR_a.ext hS5
    have hR_b := S5_hR_b.ext hS5
    have hB1 := S5_hB1.ext hS5
    have hE := S5_hE.trans hS5
    have hS2 := S5_hS2.trans hS5
    refine W.seq ?_
    refine W.seq ?_
    refine W.region (by rfl) ?_
    refine L.val rfl (op_move rfl s6_11) ?_
    refine L.val rfl (op_move rfl s6_3) ?_
    refine L.val rfl (op_len rfl rfl ln25) ?_
    refine L.val rfl (op_lss rfl rfl rfl) ?_
    refine L.nil ?_
    refine thenF_nor ?_
    refine W.cond (t := decide (((k : Nat) : Int) < (b.length : Int))) rfl (fun hc7 => ?_) (fun hc7 => ?_)
    · have hp7 := hc7
      simp only [Bool.and_eq_true, Bool.or_eq_true, Bool.and_eq_false_iff, Bool.or_eq_false_iff, Bool.not_eq_true', Bool.not_eq_false', decide_eq_true_eq, decide_eq_false_iff_not] at hp7
      refine W.skip ?_
      refine thenF_nor ?_
      refine W.seq ?_
      refine W.block ?_
      refine W.seq ?_
      refine W.drawS [Sp.eq (.slice A_a a.length c_a), Sp.eq (.int .i64 ((i : Nat) : Int)), Sp.eq (.pointer (some ((adr A_a).add (i * 22)))), Sp.eq (.pointer (some (((adr A_a).add (i * 22)).add 4))), Sp.eq (.int .i64 ((a[i]!).signer)), Sp.eq (.slice A_b b.length c_b), Sp.eq (.int .i64 ((k : Nat) : Int)), Sp.eq (.pointer (some ((adr A_b).add (k * 22)))), Sp.eq (.pointer (some (((adr A_b).add (k * 22)).add 4))), Sp.eq (.int .i64 ((b[k]!).signer)), Sp.eq (.bool (decide (((a[i]!).signer) = ((b[k]!).signer)))), Sp.eq (.bool (decide (((a[i]!).signer) = ((b[k]!).signer)))), Sp.eq (vif (decide (((a[i]!).signer) = ((b[k]!).signer))) (.slice A_a a.length c_a)), Sp.eq (vif (decide (((a[i]!).signer) = ((b[k]!).signer))) (.int .i64 ((i : Nat) : Int))), Sp.eq (vif (decide (((a[i]!).signer) = ((b[k]!).signer))) (.pointer (some ((adr A_a).add (i * 22))))), Sp.eq (vif (decide (((a[i]!).signer) = ((b[k]!).signer))) (.pointer (some (((adr A_a).add (i * 22)).add 6)))), Sp.eq (vif (decide (((a[i]!).signer) = ((b[k]!).signer))) (Enc.val ((a[i]!).parent))), Sp.eq (vif (decide (((a[i]!).signer) = ((b[k]!).signer))) (Enc.val (parent : Nm))), Sp.eq (vif (decide (((a[i]!).signer) = ((b[k]!).signer))) (.bool (decide ((a[i]!).parent = parent)))), Sp.eq (.bool ((decide (((a[i]!).signer) = ((b[k]!).signer))) && (decide ((a[i]!).parent = parent)))), Sp.eq (.bool ((decide (((a[i]!).signer) = ((b[k]!).signer))) && (decide ((a[i]!).parent = parent)))), Sp.eq (vif ((decide (((a[i]!).signer) = ((b[k]!).signer))) && (decide ((a[i]!).parent = parent))) (.slice A_a a.length c_a)), Sp.eq (vif ((decide (((a[i]!).signer) = ((b[k]!).signer))) && (decide ((a[i]!).parent = parent))) (.int .i64 ((i : Nat) : Int))), Sp.eq (vif ((decide (((a[i]!).signer) = ((b[k]!).signer))) && (decide ((a[i]!).parent = parent))) (.pointer (some ((adr A_a).add (i * 22))))), Sp.eq (vif ((decide (((a[i]!).signer) = ((b[k]!).signer))) && (decide ((a[i]!).parent = parent))) (Enc.val (a[i]! : Vt))), Sp.eq (vif ((decide (((a[i]!).signer) = ((b[k]!).signer))) && (decide ((a[i]!).parent = parent))) (.slice A_b b.length c_b)), Sp.eq (vif ((decide (((a[i]!).signer) = ((b[k]!).signer))) && (decide ((a[i]!).parent = parent))) (.int .i64 ((k : Nat) : Int))), Sp.eq (vif ((decide (((a[i]!).signer) = ((b[k]!).signer))) && (decide ((a[i]!).parent = parent))) (.pointer (some ((adr A_b).add (k * 22))))), Sp.eq (vif ((decide (((a[i]!).signer) = ((b[k]!).signer))) && (decide ((a[i]!).parent = parent))) (Enc.val (b[k]! : Vt))), Sp.eq (vif ((decide (((a[i]!).signer) = ((b[k]!).signer))) && (decide ((a[i]!).parent = parent))) (.bool (conflict_f (a[i]!) (b[k]!)))), Sp.eq (.bool (((decide (((a[i]!).signer) = ((b[k]!).signer))) && (decide ((a[i]!).parent = parent))) && (conflict_f (a[i]!) (b[k]!)))), Sp.eq (.bool (((decide (((a[i]!).signer) = ((b[k]!).signer))) && (decide ((a[i]!).parent = parent))) && (conflict_f (a[i]!) (b[k]!)))), Sp.eq (vif (((decide (((a[i]!).signer) = ((b[k]!).signer))) && (decide ((a[i]!).parent = parent))) && (conflict_f (a[i]!) (b[k]!))) (.int .i64 m)), Sp.eq (vif (((decide (((a[i]!).signer) = ((b[k]!).signer))) && (decide ((a[i]!).parent = parent))) && (conflict_f (a[i]!) (b[k]!))) (.slice A_a a.length c_a)), Sp.eq (vif (((decide (((a[i]!).signer) = ((b[k]!).signer))) && (decide ((a[i]!).parent = parent))) && (conflict_f (a[i]!) (b[k]!))) (.int .i64 ((i : Nat) : Int))), Sp.eq (vif (((decide (((a[i]!).signer) = ((b[k]!).signer))) && (decide ((a[i]!).parent = parent))) && (conflict_f (a[i]!) (b[k]!))) (.pointer (some ((adr A_a).add (i * 22))))), Sp.eq (vif (((decide (((a[i]!).signer) = ((b[k]!).signer))) && (decide ((a[i]!).parent = parent))) && (conflict_f (a[i]!) (b[k]!))) (.pointer (some (((adr A_a).add (i * 22)).add 4)))), Sp.eq (vif (((decide (((a[i]!).signer) = ((b[k]!).signer))) && (decide ((a[i]!).parent = parent))) && (conflict_f (a[i]!) (b[k]!))) (.int .i64 ((a[i]!).signer))), Sp.eq (vif (((decide (((a[i]!).signer) = ((b[k]!).signer))) && (decide ((a[i]!).parent = parent))) && (conflict_f (a[i]!) (b[k]!))) (.bool (has_f m ((a[i]!).signer)))), Sp.eq (.bool ((((decide (((a[i]!).signer) = ((b[k]!).signer))) && (decide ((a[i]!).parent = parent))) && (conflict_f (a[i]!) (b[k]!))) && (has_f m ((a[i]!).signer))))] mixed (by rfl) (Obls.cons ?_ (Obls.cons ?_ (Obls.cons ?_ (Obls.cons ?_ (Obls.cons ?_ (Obls.cons ?_ (Obls.cons ?_ (Obls.cons ?_ (Obls.cons ?_ (Obls.cons ?_ (Obls.cons ?_ (Obls.cons ?_ (Obls.cons ?_ (Obls.cons ?_ (Obls.cons ?_ (Obls.cons ?_ (Obls.cons ?_ (Obls.cons ?_ (Obls.cons ?_ (Obls.cons ?_ (Obls.cons ?_ (Obls.cons ?_ (Obls.cons ?_ (Obls.cons ?_ (Obls.cons ?_ (Obls.cons ?_ (Obls.cons ?_ (Obls.cons ?_ (Obls.cons ?_ (Obls.cons ?_ (Obls.cons ?_ (Obls.cons ?_ (Obls.cons ?_ (Obls.cons ?_ (Obls.cons ?_ (Obls.cons ?_ (Obls.cons ?_ (Obls.cons ?_ (Obls.cons ?_ (Obls.cons ?_ Obls.nil)))))))))))))))))))))))))))))))))))))))) ?_
      · intro f9 w9 hx9 ho9 hd9
        have d9_s2 : f9 2 = (.slice A_a a.length c_a) := (ho9 2 rfl).trans s6_2
        exact D.val rfl (op_move rfl d9_s2)
      · intro f10 w10 hx10 ho10 hd10
        have d10_s10 : f10 10 = (.int .i64 ((i : Nat) : Int)) := (ho10 10 rfl).trans s6_10
        exact D.val rfl (op_move rfl d10_s10)
      · intro f11 w11 hx11 ho11 hd11
        have d11_0 : f11 24 = (.slice A_a a.length c_a) := hd11 0 rfl
        have d11_1 : f11 25 = (.int .i64 ((i : Nat) : Int)) := hd11 1 rfl
        have hR_a := hR_a.ext hx11
        have hR_b := hR_b.ext hx11
        have hB1 := hB1.ext hx11
        skip
        exact D.val rfl (op_index (k := i) rfl d11_0 d11_1 sl25 (hR_a.getA (get_bang (l := a) (k := i) (by omega))).1 rfl (by omega) rfl)
      · intro f12 w12 hx12 ho12 hd12
        have d12_2 : f12 26 = (.pointer (some ((adr A_a).add (i * 22)))) := hd12 2 rfl
        exact D.val rfl (op_field rfl d12_2 fo28_4 rfl)
      · intro f13 w13 hx13 ho13 hd13
        have d13_3 : f13 27 = (.pointer (some (((adr A_a).add (i * 22)).add 4))) := hd13 3 rfl
        have hR_a := hR_a.ext hx13
        have hR_b := hR_b.ext hx13
        have hB1 := hB1.ext hx13
        skip
        exact D.val rfl (op_load1 rfl d13_3 one3 ((hR_a.getA (get_bang (l := a) (k := i) (by omega))).2.one (n := 4) rfl))
      · intro f14 w14 hx14 ho14 hd14
        have d14_s3 : f14 3 = (.slice A_b b.length c_b) := (ho14 3 rfl).trans s6_3
        exact D.val rfl (op_move rfl d14_s3)
      · intro f15 w15 hx15 ho15 hd15
        have d15_s11 : f15 11 = (.int .i64 ((k : Nat) : Int)) := (ho15 11 rfl).trans s6_11
        exact D.val rfl (op_move rfl d15_s11)
      · intro f16 w16 hx16 ho16 hd16
        have d16_5 : f16 29 = (.slice A_b b.length c_b) := hd16 5 rfl
        have d16_6 : f16 30 = (.int .i64 ((k : Nat) : Int)) := hd16 6 rfl
        have hR_a := hR_a.ext hx16
        have hR_b := hR_b.ext hx16
        have hB1 := hB1.ext hx16
        skip
        exact D.val rfl (op_index (k := k) rfl d16_5 d16_6 sl25 (hR_b.getA (get_bang (l := b) (k := k) (by omega))).1 rfl (by omega) rfl)
      · intro f17 w17 hx17 ho17 hd17
        have d17_7 : f17 31 = (.pointer (some ((adr A_b).add (k * 22)))) := hd17 7 rfl
        exact D.val rfl (op_field rfl d17_7 fo28_4 rfl)
      · intro f18 w18 hx18 ho18 hd18
        have d18_8 : f18 32 = (.pointer (some (((adr A_b).add (k * 22)).add 4))) := hd18 8 rfl
        have hR_a := hR_a.ext hx18
        have hR_b := hR_b.ext hx18
        have hB1 := hB1.ext hx18
        skip
        exact D.val rfl (op_load1 rfl d18_8 one3 ((hR_b.getA (get_bang (l := b) (k := k) (by omega))).2.one (n := 4) rfl))
      · intro f19 w19 hx19 ho19 hd19
        have d19_4 : f19 28 = (.int .i64 ((a[i]!).signer)) := hd19 4 rfl
        have d19_9 : f19 33 = (.int .i64 ((b[k]!).signer)) := hd19 9 rfl
        exact D.val rfl (op_eql rfl d19_4 d19_9)
      · intro f20 w20 hx20 ho20 hd20
        have d20_10 : f20 34 = (.bool (decide (((a[i]!).signer) = ((b[k]!).signer)))) := hd20 10 rfl
        exact D.val rfl (op_move rfl d20_10)
      · intro f21 w21 hx21 ho21 hd21
        have d21_s2 : f21 2 = (.slice A_a a.length c_a) := (ho21 2 rfl).trans s6_2
        have d21_11 : f21 35 = (.bool (decide (((a[i]!).signer) = ((b[k]!).signer)))) := hd21 11 rfl
        exact D.guardv (wanted_yes rfl rfl d21_11) (fun hg => (op_move rfl d21_s2))
      · intro f22 w22 hx22 ho22 hd22
        have d22_s10 : f22 10 = (.int .i64 ((i : Nat) : Int)) := (ho22 10 rfl).trans s6_10
        have d22_11 : f22 35 = (.bool (decide (((a[i]!).signer) = ((b[k]!).signer)))) := hd22 11 rfl
        exact D.guardv (wanted_yes rfl rfl d22_11) (fun hg => (op_move rfl d22_s10))
      · intro f23 w23 hx23 ho23 hd23
        have d23_11 : f23 35 = (.bool (decide (((a[i]!).signer) = ((b[k]!).signer)))) := hd23 11 rfl
        have d23_12 : f23 36 = (vif (decide (((a[i]!).signer) = ((b[k]!).signer))) (.slice A_a a.length c_a)) := hd23 12 rfl
        have d23_13 : f23 37 = (vif (decide (((a[i]!).signer) = ((b[k]!).signer))) (.int .i64 ((i : Nat) : Int))) := hd23 13 rfl
        have hR_a := hR_a.ext hx23
        have hR_b := hR_b.ext hx23
        have hB1 := hB1.ext hx23
        exact D.guardv (wanted_yes rfl rfl d23_11) (fun hg => by have hp := hg; simp only [Bool.and_eq_true, Bool.or_eq_true, Bool.not_eq_true', decide_eq_true_eq, decide_eq_false_iff_not, bne_iff_ne, beq_iff_eq] at hp; skip; exact (op_index (k := i) rfl ((show _ = vif _ (.slice A_a a.length c_a) from d23_12).trans (vif_t hg).symm) ((show _ = vif _ (.int .i64 ((i : Nat) : Int)) from d23_13).trans (vif_t hg).symm) sl25 (hR_a.getA (get_bang (l := a) (k := i) (by omega))).1 rfl (by omega) rfl))
      · intro f24 w24 hx24 ho24 hd24
        have d24_11 : f24 35 = (.bool (decide (((a[i]!).signer) = ((b[k]!).signer)))) := hd24 11 rfl
        have d24_14 : f24 38 = (vif (decide (((a[i]!).signer) = ((b[k]!).signer))) (.pointer (some ((adr A_a).add (i * 22))))) := hd24 14 rfl
        exact D.guardv (wanted_yes rfl rfl d24_11) (fun hg => (op_field rfl ((show _ = vif _ (.pointer (some ((adr A_a).add (i * 22)))) from d24_14).trans (vif_t hg).symm) fo28_6 rfl))
      · intro f25 w25 hx25 ho25 hd25
        have d25_11 : f25 35 = (.bool (decide (((a[i]!).signer) = ((b[k]!).signer)))) := hd25 11 rfl
        have d25_15 : f25 39 = (vif (decide (((a[i]!).signer) = ((b[k]!).signer))) (.pointer (some (((adr A_a).add (i * 22)).add 6)))) := hd25 15 rfl
        have hR_a := hR_a.ext hx25
        have hR_b := hR_b.ext hx25
        have hB1 := hB1.ext hx25
        exact D.guardv (wanted_yes rfl rfl d25_11) (fun hg => by have hp := hg; simp only [Bool.and_eq_true, Bool.or_eq_true, Bool.not_eq_true', decide_eq_true_eq, decide_eq_false_iff_not, bne_iff_ne, beq_iff_eq] at hp; skip; exact (op_load (v := ((a[i]!).parent : Nm)) rfl ((show _ = vif _ (.pointer (some (((adr A_a).add (i * 22)).add 6))) from d25_15).trans (vif_t hg).symm) ty24 (sub_nm 6 (hR_a.getA (get_bang (l := a) (k := i) (by omega))).2 rfl)))
      · intro f26 w26 hx26 ho26 hd26
        have d26_s5 : f26 5 = (.pointer (some ⟨b1, 0, none⟩)) := (ho26 5 rfl).trans s6_5
        have d26_11 : f26 35 = (.bool (decide (((a[i]!).signer) = ((b[k]!).signer)))) := hd26 11 rfl
        have hR_a := hR_a.ext hx26
        have hR_b := hR_b.ext hx26
        have hB1 := hB1.ext hx26
        exact D.guardv (wanted_yes rfl rfl d26_11) (fun hg => (op_load (v := (parent : Nm)) rfl d26_s5 ty24 hB1.cells))
      · intro f27 w27 hx27 ho27 hd27
        have d27_11 : f27 35 = (.bool (decide (((a[i]!).signer) = ((b[k]!).signer)))) := hd27 11 rfl
        have d27_16 : f27 40 = (vif (decide (((a[i]!).signer) = ((b[k]!).signer))) (Enc.val ((a[i]!).parent))) := hd27 16 rfl
        have d27_17 : f27 41 = (vif (decide (((a[i]!).signer) = ((b[k]!).signer))) (Enc.val (parent : Nm))) := hd27 17 rfl
        exact D.guardv (wanted_yes rfl rfl d27_11) (fun hg => (op_eqle (a := ((a[i]!).parent : Nm)) (b := (parent : Nm)) rfl ((show _ = vif _ (Enc.val ((a[i]!).parent)) from d27_16).trans (vif_t hg).symm) ((show _ = vif _ (Enc.val (parent : Nm)) from d27_17).trans (vif_t hg).symm) eq24 (fun _ => ⟨_, rfl⟩) Try.eqGuardType24))
      · intro f28 w28 hx28 ho28 hd28
        have d28_11 : f28 35 = (.bool (decide (((a[i]!).signer) = ((b[k]!).signer)))) := hd28 11 rfl
        have d28_18 : f28 42 = (vif (decide (((a[i]!).signer) = ((b[k]!).signer))) (.bool (decide ((a[i]!).parent = parent)))) := hd28 18 rfl
        exact D.val rfl (op_and rfl d28_11 d28_18 rfl)
      · intro f29 w29 hx29 ho29 hd29
        have d29_19 : f29 43 = (.bool ((decide (((a[i]!).signer) = ((b[k]!).signer))) && (decide ((a[i]!).parent = parent)))) := hd29 19 rfl
        exact D.val rfl (op_move rfl d29_19)
      · intro f30 w30 hx30 ho30 hd30
        have d30_s2 : f30 2 = (.slice A_a a.length c_a) := (ho30 2 rfl).trans s6_2
        have d30_20 : f30 44 = (.bool ((decide (((a[i]!).signer) = ((b[k]!).signer))) && (decide ((a[i]!).parent = parent)))) := hd30 20 rfl
        exact D.guardv (wanted_yes rfl rfl d30_20) (fun hg => (op_move rfl d30_s2))
      · intro f31 w31 hx31 ho31 hd31
        have d31_s10 : f31 10 = (.int .i64 ((i : Nat) : Int)) := (ho31 10 rfl).trans s6_10
        have d31_20 : f31 44 = (.bool ((decide (((a[i]!).signer) = ((b[k]!).signer))) && (decide ((a[i]!).parent = parent)))) := hd31 20 rfl
        exact D.guardv (wanted_yes rfl rfl d31_20) (fun hg => (op_move rfl d31_s10))
      · intro f32 w32 hx32 ho32 hd32
        have d32_20 : f32 44 = (.bool ((decide (((a[i]!).signer) = ((b[k]!).signer))) && (decide ((a[i]!).parent = parent)))) := hd32 20 rfl
        have d32_21 : f32 45 = (vif ((decide (((a[i]!).signer) = ((b[k]!).signer))) && (decide ((a[i]!).parent = parent))) (.slice A_a a.length c_a)) := hd32 21 rfl
        have d32_22 : f32 46 = (vif ((decide (((a[i]!).signer) = ((b[k]!).signer))) && (decide ((a[i]!).parent = parent))) (.int .i64 ((i : Nat) : Int))) := hd32 22 rfl
        have hR_a := hR_a.ext hx32
        have hR_b := hR_b.ext hx32
        have hB1 := hB1.ext hx32
        exact D.guardv (wanted_yes rfl rfl d32_20) (fun hg => by have hp := hg; simp only [Bool.and_eq_true, Bool.or_eq_true, Bool.not_eq_true', decide_eq_true_eq, decide_eq_false_iff_not, bne_iff_ne, beq_iff_eq] at hp; skip; exact (op_index (k := i) rfl ((show _ = vif _ (.slice A_a a.length c_a) from d32_21).trans (vif_t hg).symm) ((show _ = vif _ (.int .i64 ((i : Nat) : Int)) from d32_22).trans (vif_t hg).symm) sl25 (hR_a.getA (get_bang (l := a) (k := i) (by omega))).1 rfl (by omega) rfl))
      · intro f33 w33 hx33 ho33 hd33
        have d33_20 : f33 44 = (.bool ((decide (((a[i]!).signer) = ((b[k]!).signer))) && (decide ((a[i]!).parent = parent)))) := hd33 20 rfl
        have d33_23 : f33 47 = (vif ((decide (((a[i]!).signer) = ((b[k]!).signer))) && (decide ((a[i]!).parent = parent))) (.pointer (some ((adr A_a).add (i * 22))))) := hd33 23 rfl
        have hR_a := hR_a.ext hx33
        have hR_b := hR_b.ext hx33
        have hB1 := hB1.ext hx33
        exact D.guardv (wanted_yes rfl rfl d33_20) (fun hg => by have hp := hg; simp only [Bool.and_eq_true, Bool.or_eq_true, Bool.not_eq_true', decide_eq_true_eq, decide_eq_false_iff_not, bne_iff_ne, beq_iff_eq] at hp; skip; exact (op_load (v := (a[i]! : Vt)) rfl ((show _ = vif _ (.pointer (some ((adr A_a).add (i * 22)))) from d33_23).trans (vif_t hg).symm) ty28 (hR_a.getA (get_bang (l := a) (k := i) (by omega))).2))
      · intro f34 w34 hx34 ho34 hd34
        have d34_s3 : f34 3 = (.slice A_b b.length c_b) := (ho34 3 rfl).trans s6_3
        have d34_20 : f34 44 = (.bool ((decide (((a[i]!).signer) = ((b[k]!).signer))) && (decide ((a[i]!).parent = parent)))) := hd34 20 rfl
        exact D.guardv (wanted_yes rfl rfl d34_20) (fun hg => (op_move rfl d34_s3))
      · intro f35 w35 hx35 ho35 hd35
        have d35_s11 : f35 11 = (.int .i64 ((k : Nat) : Int)) := (ho35 11 rfl).trans s6_11
        have d35_20 : f35 44 = (.bool ((decide (((a[i]!).signer) = ((b[k]!).signer))) && (decide ((a[i]!).parent = parent)))) := hd35 20 rfl
        exact D.guardv (wanted_yes rfl rfl d35_20) (fun hg => (op_move rfl d35_s11))
      · intro f36 w36 hx36 ho36 hd36
        have d36_20 : f36 44 = (.bool ((decide (((a[i]!).signer) = ((b[k]!).signer))) && (decide ((a[i]!).parent = parent)))) := hd36 20 rfl
        have d36_25 : f36 49 = (vif ((decide (((a[i]!).signer) = ((b[k]!).signer))) && (decide ((a[i]!).parent = parent))) (.slice A_b b.length c_b)) := hd36 25 rfl
        have d36_26 : f36 50 = (vif ((decide (((a[i]!).signer) = ((b[k]!).signer))) && (decide ((a[i]!).parent = parent))) (.int .i64 ((k : Nat) : Int))) := hd36 26 rfl
        have hR_a := hR_a.ext hx36
        have hR_b := hR_b.ext hx36
        have hB1 := hB1.ext hx36
        exact D.guardv (wanted_yes rfl rfl d36_20) (fun hg => by have hp := hg; simp only [Bool.and_eq_true, Bool.or_eq_true, Bool.not_eq_true', decide_eq_true_eq, decide_eq_false_iff_not, bne_iff_ne, beq_iff_eq] at hp; skip; exact (op_index (k := k) rfl ((show _ = vif _ (.slice A_b b.length c_b) from d36_25).trans (vif_t hg).symm) ((show _ = vif _ (.int .i64 ((k : Nat) : Int)) from d36_26).trans (vif_t hg).symm) sl25 (hR_b.getA (get_bang (l := b) (k := k) (by omega))).1 rfl (by omega) rfl))
      · intro f37 w37 hx37 ho37 hd37
        have d37_20 : f37 44 = (.bool ((decide (((a[i]!).signer) = ((b[k]!).signer))) && (decide ((a[i]!).parent = parent)))) := hd37 20 rfl
        have d37_27 : f37 51 = (vif ((decide (((a[i]!).signer) = ((b[k]!).signer))) && (decide ((a[i]!).parent = parent))) (.pointer (some ((adr A_b).add (k * 22))))) := hd37 27 rfl
        have hR_a := hR_a.ext hx37
        have hR_b := hR_b.ext hx37
        have hB1 := hB1.ext hx37
        exact D.guardv (wanted_yes rfl rfl d37_20) (fun hg => by have hp := hg; simp only [Bool.and_eq_true, Bool.or_eq_true, Bool.not_eq_true', decide_eq_true_eq, decide_eq_false_iff_not, bne_iff_ne, beq_iff_eq] at hp; skip; exact (op_load (v := (b[k]! : Vt)) rfl ((show _ = vif _ (.pointer (some ((adr A_b).add (k * 22)))) from d37_27).trans (vif_t hg).symm) ty28 (hR_b.getA (get_bang (l := b) (k := k) (by omega))).2))
      · intro f38 w38 hx38 ho38 hd38
        have d38_20 : f38 44 = (.bool ((decide (((a[i]!).signer) = ((b[k]!).signer))) && (decide ((a[i]!).parent = parent)))) := hd38 20 rfl
        have d38_24 : f38 48 = (vif ((decide (((a[i]!).signer) = ((b[k]!).signer))) && (decide ((a[i]!).parent = parent))) (Enc.val (a[i]! : Vt))) := hd38 24 rfl
        have d38_28 : f38 52 = (vif ((decide (((a[i]!).signer) = ((b[k]!).signer))) && (decide ((a[i]!).parent = parent))) (Enc.val (b[k]! : Vt))) := hd38 28 rfl
        have hR_a := hR_a.ext hx38
        have hR_b := hR_b.ext hx38
        have hB1 := hB1.ext hx38
        exact D.guardc (wanted_yes rfl rfl d38_20) (fun hg => (OpS.call (op_call rfl (argsC ((show _ = vif _ (Enc.val (a[i]! : Vt)) from d38_24).trans (vif_t hg).symm) (argsC ((show _ = vif _ (Enc.val (b[k]! : Vt)) from d38_28).trans (vif_t hg).symm) argsN)) Try.func38 rfl rfl) Conflict_ok))
      · intro f39 w39 hx39 ho39 hd39
        have d39_20 : f39 44 = (.bool ((decide (((a[i]!).signer) = ((b[k]!).signer))) && (decide ((a[i]!).parent = parent)))) := hd39 20 rfl
        have d39_29 : f39 53 = (vif ((decide (((a[i]!).signer) = ((b[k]!).signer))) && (decide ((a[i]!).parent = parent))) (.bool (conflict_f (a[i]!) (b[k]!)))) := hd39 29 rfl
        exact D.val rfl (op_and rfl d39_20 d39_29 rfl)
      · intro f40 w40 hx40 ho40 hd40
        have d40_30 : f40 54 = (.bool (((decide (((a[i]!).signer) = ((b[k]!).signer))) && (decide ((a[i]!).parent = parent))) && (conflict_f (a[i]!) (b[k]!)))) := hd40 30 rfl
        exact D.val rfl (op_move rfl d40_30)
      · intro f41 w41 hx41 ho41 hd41
        have d41_s0 : f41 0 = (.int .i64 m) := (ho41 0 rfl).trans s6_0
        have d41_31 : f41 55 = (.bool (((decide (((a[i]!).signer) = ((b[k]!).signer))) && (decide ((a[i]!).parent = parent))) && (conflict_f (a[i]!) (b[k]!)))) := hd41 31 rfl
        exact D.guardv (wanted_yes rfl rfl d41_31) (fun hg => (op_move rfl d41_s0))
      · intro f42 w42 hx42 ho42 hd42
        have d42_s2 : f42 2 = (.slice A_a a.length c_a) := (ho42 2 rfl).trans s6_2
        have d42_31 : f42 55 = (.bool (((decide (((a[i]!).signer) = ((b[k]!).signer))) && (decide ((a[i]!).parent = parent))) && (conflict_f (a[i]!) (b[k]!)))) := hd42 31 rfl
        exact D.guardv (wanted_yes rfl rfl d42_31) (fun hg => (op_move rfl d42_s2))
      · intro f43 w43 hx43 ho43 hd43
        have d43_s10 : f43 10 = (.int .i64 ((i : Nat) : Int)) := (ho43 10 rfl).trans s6_10
        have d43_31 : f43 55 = (.bool (((decide (((a[i]!).signer) = ((b[k]!).signer))) && (decide ((a[i]!).parent = parent))) && (conflict_f (a[i]!) (b[k]!)))) := hd43 31 rfl
        exact D.guardv (wanted_yes rfl rfl d43_31) (fun hg => (op_move rfl d43_s10))
      · intro f44 w44 hx44 ho44 hd44
        have d44_31 : f44 55 = (.bool (((decide (((a[i]!).signer) = ((b[k]!).signer))) && (decide ((a[i]!).parent = parent))) && (conflict_f (a[i]!) (b[k]!)))) := hd44 31 rfl
        have d44_33 : f44 57 = (vif (((decide (((a[i]!).signer) = ((b[k]!).signer))) && (decide ((a[i]!).parent = parent))) && (conflict_f (a[i]!) (b[k]!))) (.slice A_a a.length c_a)) := hd44 33 rfl
        have d44_34 : f44 58 = (vif (((decide (((a[i]!).signer) = ((b[k]!).signer))) && (decide ((a[i]!).parent = parent))) && (conflict_f (a[i]!) (b[k]!))) (.int .i64 ((i : Nat) : Int))) := hd44 34 rfl
        have hR_a := hR_a.ext hx44
        have hR_b := hR_b.ext hx44
        have hB1 := hB1.ext hx44
        exact D.guardv (wanted_yes rfl rfl d44_31) (fun hg => by have hp := hg; simp only [Bool.and_eq_true, Bool.or_eq_true, Bool.not_eq_true', decide_eq_true_eq, decide_eq_false_iff_not, bne_iff_ne, beq_iff_eq] at hp; skip; exact (op_index (k := i) rfl ((show _ = vif _ (.slice A_a a.length c_a) from d44_33).trans (vif_t hg).symm) ((show _ = vif _ (.int .i64 ((i : Nat) : Int)) from d44_34).trans (vif_t hg).symm) sl25 (hR_a.getA (get_bang (l := a) (k := i) (by omega))).1 rfl (by omega) rfl))
      · intro f45 w45 hx45 ho45 hd45
        have d45_31 : f45 55 = (.bool (((decide (((a[i]!).signer) = ((b[k]!).signer))) && (decide ((a[i]!).parent = parent))) && (conflict_f (a[i]!) (b[k]!)))) := hd45 31 rfl
        have d45_35 : f45 59 = (vif (((decide (((a[i]!).signer) = ((b[k]!).signer))) && (decide ((a[i]!).parent = parent))) && (conflict_f (a[i]!) (b[k]!))) (.pointer (some ((adr A_a).add (i * 22))))) := hd45 35 rfl
        exact D.guardv (wanted_yes rfl rfl d45_31) (fun hg => (op_field rfl ((show _ = vif _ (.pointer (some ((adr A_a).add (i * 22)))) from d45_35).trans (vif_t hg).symm) fo28_4 rfl))
      · intro f46 w46 hx46 ho46 hd46
        have d46_31 : f46 55 = (.bool (((decide (((a[i]!).signer) = ((b[k]!).signer))) && (decide ((a[i]!).parent = parent))) && (conflict_f (a[i]!) (b[k]!)))) := hd46 31 rfl
        have d46_36 : f46 60 = (vif (((decide (((a[i]!).signer) = ((b[k]!).signer))) && (decide ((a[i]!).parent = parent))) && (conflict_f (a[i]!) (b[k]!))) (.pointer (some (((adr A_a).add (i * 22)).add 4)))) := hd46 36 rfl
        have hR_a := hR_a.ext hx46
        have hR_b := hR_b.ext hx46
        have hB1 := hB1.ext hx46
        exact D.guardv (wanted_yes rfl rfl d46_31) (fun hg => by have hp := hg; simp only [Bool.and_eq_true, Bool.or_eq_true, Bool.not_eq_true', decide_eq_true_eq, decide_eq_false_iff_not, bne_iff_ne, beq_iff_eq] at hp; skip; exact (op_load1 rfl ((show _ = vif _ (.pointer (some (((adr A_a).add (i * 22)).add 4))) from d46_36).trans (vif_t hg).symm) one3 ((hR_a.getA (get_bang (l := a) (k := i) (by omega))).2.one (n := 4) rfl)))
      · intro f47 w47 hx47 ho47 hd47
        have d47_31 : f47 55 = (.bool (((decide (((a[i]!).signer) = ((b[k]!).signer))) && (decide ((a[i]!).parent = parent))) && (conflict_f (a[i]!) (b[k]!)))) := hd47 31 rfl
        have d47_32 : f47 56 = (vif (((decide (((a[i]!).signer) = ((b[k]!).signer))) && (decide ((a[i]!).parent = parent))) && (conflict_f (a[i]!) (b[k]!))) (.int .i64 m)) := hd47 32 rfl
        have d47_37 : f47 61 = (vif (((decide (((a[i]!).signer) = ((b[k]!).signer))) && (decide ((a[i]!).parent = parent))) && (conflict_f (a[i]!) (b[k]!))) (.int .i64 ((a[i]!).signer))) := hd47 37 rfl
        have hR_a := hR_a.ext hx47
        have hR_b := hR_b.ext hx47
        have hB1 := hB1.ext hx47
        exact D.guardc (wanted_yes rfl rfl d47_31) (fun hg => (OpS.call (op_call rfl (argsC ((show _ = vif _ (.int .i64 m) from d47_32).trans (vif_t hg).symm) (argsC ((show _ = vif _ (.int .i64 ((a[i]!).signer)) from d47_37).trans (vif_t hg).symm) argsN)) Try.func54 rfl rfl) Has_ok))
      · intro f48 w48 hx48 ho48 hd48
        have d48_31 : f48 55 = (.bool (((decide (((a[i]!).signer) = ((b[k]!).signer))) && (decide ((a[i]!).parent = parent))) && (conflict_f (a[i]!) (b[k]!)))) := hd48 31 rfl
        have d48_38 : f48 62 = (vif (((decide (((a[i]!).signer) = ((b[k]!).signer))) && (decide ((a[i]!).parent = parent))) && (conflict_f (a[i]!) (b[k]!))) (.bool (has_f m ((a[i]!).signer)))) := hd48 38 rfl
        exact D.val rfl (op_and rfl d48_31 d48_38 rfl)
      intro f49 w49 hx49 ho49 hr49
      have s0 : f49 0 = (.int .i64 m) := (ho49 0 rfl).trans s6_0
      have s2 : f49 2 = (.slice A_a a.length c_a) := (ho49 2 rfl).trans s6_2
      have s3 : f49 3 = (.slice A_b b.length c_b) := (ho49 3 rfl).trans s6_3
      have s5 : f49 5 = (.pointer (some ⟨b1, 0, none⟩)) := (ho49 5 rfl).trans s6_5
      have s8 : f49 8 = (.int .i64 0) := (ho49 8 rfl).trans s6_8
      have s9 : f49 9 = (.int .i64 t2) := (ho49 9 rfl).trans s6_9
      have s10 : f49 10 = (.int .i64 ((i : Nat) : Int)) := (ho49 10 rfl).trans s6_10
      have s11 : f49 11 = (.int .i64 ((k : Nat) : Int)) := (ho49 11 rfl).trans s6_11
      have s15 : f49 15 = (.bool (decide (((i : Nat) : Int) < (a.length : Int)))) := (ho49 15 rfl).trans s6_15
      have s21 : f49 21 = (.bool (decide (((k : Nat) : Int) < (b.length : Int)))) := ho49 21 rfl
      have s63 : f49 63 = (.bool ((((decide (((a[i]!).signer) = ((b[k]!).signer))) && (decide ((a[i]!).parent = parent))) && (conflict_f (a[i]!) (b[k]!))) && (has_f m ((a[i]!).signer)))) := hr49 39 (by decide)
      have hE := hE.trans hx49
      have hS2 := hS2.trans hx49
      have hS5 := hS5.trans hx49
      have hR_a := hR_a.ext hx49
      have hR_b := hR_b.ext hx49
      have hB1 := hB1.ext hx49
      refine thenF_nor ?_
      refine W.cond (t := (((decide (((a[i]!).signer) = ((b[k]!).signer))) && (decide ((a[i]!).parent = parent))) && (conflict_f (a[i]!) (b[k]!))) && (has_f m ((a[i]!).signer))) s63 (fun hc50 => ?_) (fun hc50 => ?_)
      · have hp50 := hc50
        simp only [Bool.and_eq_true, Bool.or_eq_true, Bool.and_eq_false_iff, Bool.or_eq_false_iff, Bool.not_eq_true', Bool.not_eq_false', decide_eq_true_eq, decide_eq_false_iff_not] at hp50
        have hcc := hc50
        have hrg := has_range (m := m) (i := a[i]!.signer) (by have h0 := hcc; simp only [Bool.and_eq_true] at h0; exact h0.2)
        refine W.region (by rfl) ?_
        refine L.val rfl (op_move rfl s9) ?_
        refine L.val rfl (op_move rfl s2) ?_
        refine L.val rfl (op_move rfl s10) ?_
        refine L.val rfl (op_index (k := i) rfl rfl rfl sl25 (hR_a.getA (get_bang (l := a) (k := i) (by omega))).1 rfl (by omega) rfl) ?_
        refine L.val rfl (op_field rfl rfl fo28_4 rfl) ?_
        refine L.val rfl (op_load1 rfl rfl one3 ((hR_a.getA (get_bang (l := a) (k := i) (by omega))).2.one (n := 4) rfl)) ?_
        refine L.val rfl (op_conv rfl rfl (by kernel_rfl) Try.underlying60) ?_
        refine L.val rfl (op_shlu rfl rfl rfl (by omega) (by omega)) ?_
        refine L.val rfl (op_ior rfl rfl rfl) ?_
        refine L.val rfl (op_assign rfl rfl) ?_
        refine L.nil ?_
        refine blockF_nor ?_
        refine thenF_nor ?_
        refine W.region (by rfl) ?_
        refine L.val rfl (op_move rfl s11) ?_
        refine L.val rfl (op_add (c := ((k + 1 : Nat) : Int)) rfl rfl rfl (by omega) (by omega)) ?_
        refine L.val rfl (op_assign rfl rfl) ?_
        refine L.nil ?_
        refine thenF_nor ?_
        exact ⟨(k + 1, ior t2 (ishl 1 ((a[i]!).signer))), ⟨(by (try dsimp only); omega), (by dsimp only; rw [fold_go (by omega), hst]; unfold tornStep; rw [hcc]; rfl), s0, s2, s3, s5, s8, s10, s15, rfl, rfl, hS5⟩, (by (try dsimp only); omega)⟩
      · have hp50 := hc50
        simp only [Bool.and_eq_true, Bool.or_eq_true, Bool.and_eq_false_iff, Bool.or_eq_false_iff, Bool.not_eq_true', Bool.not_eq_false', decide_eq_true_eq, decide_eq_false_iff_not] at hp50
        have hcc := hc50
        refine W.skip ?_
        refine blockF_nor ?_
        refine thenF_nor ?_
        refine W.region (by rfl) ?_
        refine L.val rfl (op_move rfl s11) ?_
        refine L.val rfl (op_add (c := ((k + 1 : Nat) : Int)) rfl rfl rfl (by omega) (by omega)) ?_
        refine L.val rfl (op_assign rfl rfl) ?_
        refine L.nil ?_
        refine thenF_nor ?_
        exact ⟨(k + 1, t2), ⟨(by (try dsimp only); omega), (by dsimp only; rw [fold_go (by omega), hst]; unfold tornStep; rw [hcc]; rfl), s0, s2, s3, s5, s8, s10, s15, rfl, s9, hS5⟩, (by (try dsimp only); omega)⟩
    · have hp7 := hc7
      simp only [Bool.and_eq_true, Bool.or_eq_true, Bool.and_eq_false_iff, Bool.or_eq_false_iff, Bool.not_eq_true', Bool.not_eq_false', decide_eq_true_eq, decide_eq_false_iff_not] at hp7
      have hkl : k = b.length := by omega
      rw [hkl, List.take_length] at hst
      refine W.exit ?_
      refine thenF_exit ?_
      refine thenF_exit ?_
      refine blockF_hit ?_
      refine blockF_nor ?_
      refine thenF_nor ?_
      refine W.region (by rfl) ?_
      refine L.val rfl (op_move rfl s6_10) ?_
      refine L.val rfl (op_add (c := ((i + 1 : Nat) : Int)) rfl rfl rfl (by omega) (by omega)) ?_
      refine L.val rfl (op_assign rfl rfl) ?_
      refine L.nil ?_
      refine thenF_nor ?_
      exact ⟨(i + 1, t2), ⟨(by (try dsimp only); omega), (by dsimp only; rw [fold_go (by omega), hti]; exact hst), s6_0, s6_2, s6_3, s6_5, s6_8, rfl, s6_9, hS2⟩, (by (try dsimp only); omega)⟩
  · have hp4 := hc4
    simp only [Bool.and_eq_true, Bool.or_eq_true, Bool.and_eq_false_iff, Bool.or_eq_false_iff, Bool.not_eq_true', Bool.not_eq_false', decide_eq_true_eq, decide_eq_false_iff_not] at hp4
    have hil : i = a.length := by omega
    rw [hil, List.take_length] at hti
    refine W.exit ?_
    refine thenF_exit ?_
    refine thenF_exit ?_
    refine blockF_hit ?_
    refine thenF_nor ?_
    refine W.seq ?_
    refine W.region (by rfl) ?_
    refine L.val rfl (op_move rfl s3_9) ?_
    refine L.val rfl (op_assign rfl rfl) ?_
    refine L.nil ?_
    refine thenF_nor ?_
    refine W.ret ?_
    exact end_ret1 (v := (.int .i64 t)) rfl rfl ⟨(by rw [show torn_f m parent a b = t from hti]), hE⟩

end Go.Proofs.Ytdknjfmjddlphaa
