/-
  Contracts of functions of the program, each with its walk in the logic of frames. Printed by a program of this session (wip/gen) from the translation.
-/
import Derived.Test.YtdknjfmjddlphaaLaw12Pure
set_option linter.unusedSimpArgs false
set_option linter.unusedVariables false
namespace Go.Proofs.Ytdknjfmjddlphaa
open Go Go.Fk

set_option maxRecDepth 100000 in
theorem has12_ok {A_l : Option Addr} {c_l lo_l hi_l : Nat} {l : List Vt} {v : Vt}  {w : World} (hR_l : Rd w lo_l hi_l A_l l) : Gives Try.prog 19 #[(.slice A_l l.length c_l), (Enc.val (v : Vt))] w fun u w' => u = (.bool (l.any (fun x => decide (x = v)))) ∧ Ext w w' := by
  have hE : Ext w w := Ext.refl w
  have hlen_l := hR_l.len
  refine gives_of_W Try.func19 rfl Try.ntmps19 rfl ?_
  refine W.seq ?_
  refine W.region (by rfl) ?_
  refine L.step rfl (op_box (cs := (Enc.cells (v : Vt))) rfl rfl rfl) ?_
  rintro _ w1 ⟨b1, rfl, hb1, hB1, hx1⟩
  have hE := hE.trans hx1
  have hR_l := hR_l.ext hx1
  refine L.val (v := (.bool false)) rfl (op_assign rfl rfl) ?_
  refine L.nil ?_
  refine thenF_nor ?_
  refine W.seq ?_
  refine W.seq ?_
  refine W.region (by rfl) ?_
  refine L.val rfl (op_assign rfl rfl) ?_
  refine L.nil ?_
  refine thenF_nor ?_
  refine W.block ?_
  have S2_hR_l := hR_l
  have S2_hB1 := hB1
  have S2_hE := hE
  have hS2 : Ext w1 w1 := Ext.refl _
  refine W.loopg (γ := Nat) (fun (k : Nat) (f : Fr) (ww : World) => k ≤ l.length ∧ (l.drop k).any (fun x => decide (x = v)) = l.any (fun x => decide (x = v)) ∧ f 0 = (.slice A_l l.length c_l) ∧ f 3 = (.pointer (some ⟨b1, 0, none⟩)) ∧ f 5 = (.int .i64 ((k : Nat) : Int)) ∧ Ext w1 ww) (fun (k : Nat) => l.length - k) 0 ⟨(by (try dsimp only); omega), rfl, rfl, rfl, rfl, hS2⟩ ?_
  rintro k f3 w3 ⟨hk, hany, s3_0, s3_3, s3_5, hS2⟩
  have hR_l := S2_hR_l.ext hS2
  have hB1 := S2_hB1.ext hS2
  have hE := S2_hE.trans hS2
  refine W.seq ?_
  refine W.seq ?_
  refine W.region (by rfl) ?_
  refine L.val rfl (op_move rfl s3_5) ?_
  refine L.val rfl (op_move rfl s3_0) ?_
  refine L.val rfl (op_len rfl rfl ln25) ?_
  refine L.val rfl (op_lss rfl rfl rfl) ?_
  refine L.nil ?_
  refine thenF_nor ?_
  refine W.cond (t := decide (((k : Nat) : Int) < (l.length : Int))) rfl (fun hc4 => ?_) (fun hc4 => ?_)
  · have hp4 := hc4
    simp only [Bool.and_eq_true, Bool.or_eq_true, Bool.and_eq_false_iff, Bool.or_eq_false_iff, Bool.not_eq_true', Bool.not_eq_false', decide_eq_true_eq, decide_eq_false_iff_not] at hp4
    refine W.skip ?_
    refine thenF_nor ?_
    refine W.seq ?_
    refine W.block ?_
    refine W.seq ?_
    refine W.drawS [Sp.eq (.slice A_l l.length c_l), Sp.eq (.int .i64 ((k : Nat) : Int)), Sp.eq (.pointer (some ((adr A_l).add (k * 22)))), Sp.eq (Enc.val (l[k]! : Vt)), Sp.eq (Enc.val (v : Vt)), Sp.eq (.bool (decide (l[k]! = v)))] mixed (by rfl) (Obls.cons ?_ (Obls.cons ?_ (Obls.cons ?_ (Obls.cons ?_ (Obls.cons ?_ (Obls.cons ?_ Obls.nil)))))) ?_
    · intro f6 w6 hx6 ho6 hd6
      have d6_s0 : f6 0 = (.slice A_l l.length c_l) := (ho6 0 rfl).trans s3_0
      exact D.val rfl (op_move rfl d6_s0)
    · intro f7 w7 hx7 ho7 hd7
      have d7_s5 : f7 5 = (.int .i64 ((k : Nat) : Int)) := (ho7 5 rfl).trans s3_5
      exact D.val rfl (op_move rfl d7_s5)
    · intro f8 w8 hx8 ho8 hd8
      have d8_0 : f8 12 = (.slice A_l l.length c_l) := hd8 0 rfl
      have d8_1 : f8 13 = (.int .i64 ((k : Nat) : Int)) := hd8 1 rfl
      have hR_l := hR_l.ext hx8
      have hB1 := hB1.ext hx8
      skip
      exact D.val rfl (op_index (k := k) rfl d8_0 d8_1 sl25 (hR_l.getA (get_bang (l := l) (k := k) (by omega))).1 rfl (by omega) rfl)
    · intro f9 w9 hx9 ho9 hd9
      have d9_2 : f9 14 = (.pointer (some ((adr A_l).add (k * 22)))) := hd9 2 rfl
      have hR_l := hR_l.ext hx9
      have hB1 := hB1.ext hx9
      skip
      exact D.val rfl (op_load (v := (l[k]! : Vt)) rfl d9_2 ty28 (hR_l.getA (get_bang (l := l) (k := k) (by omega))).2)
    · intro f10 w10 hx10 ho10 hd10
      have d10_s3 : f10 3 = (.pointer (some ⟨b1, 0, none⟩)) := (ho10 3 rfl).trans s3_3
      have hR_l := hR_l.ext hx10
      have hB1 := hB1.ext hx10
      exact D.val rfl (op_load (v := (v : Vt)) rfl d10_s3 ty28 hB1.cells)
    · intro f11 w11 hx11 ho11 hd11
      have d11_3 : f11 15 = (Enc.val (l[k]! : Vt)) := hd11 3 rfl
      have d11_4 : f11 16 = (Enc.val (v : Vt)) := hd11 4 rfl
      exact D.val rfl (op_eqle (a := (l[k]! : Vt)) (b := (v : Vt)) rfl d11_3 d11_4 eq28 (fun _ => ⟨_, rfl⟩) Try.eqGuardType28)
    intro f12 w12 hx12 ho12 hr12
    have s0 : f12 0 = (.slice A_l l.length c_l) := (ho12 0 rfl).trans s3_0
    have s3 : f12 3 = (.pointer (some ⟨b1, 0, none⟩)) := (ho12 3 rfl).trans s3_3
    have s5 : f12 5 = (.int .i64 ((k : Nat) : Int)) := (ho12 5 rfl).trans s3_5
    have s9 : f12 9 = (.bool (decide (((k : Nat) : Int) < (l.length : Int)))) := ho12 9 rfl
    have s17 : f12 17 = (.bool (decide (l[k]! = v))) := hr12 5 (by decide)
    have hE := hE.trans hx12
    have hS2 := hS2.trans hx12
    have hR_l := hR_l.ext hx12
    have hB1 := hB1.ext hx12
    refine thenF_nor ?_
    refine W.cond (t := decide (l[k]! = v)) s17 (fun hc13 => ?_) (fun hc13 => ?_)
    · have hp13 := hc13
      simp only [Bool.and_eq_true, Bool.or_eq_true, Bool.and_eq_false_iff, Bool.or_eq_false_iff, Bool.not_eq_true', Bool.not_eq_false', decide_eq_true_eq, decide_eq_false_iff_not] at hp13
      have hyes := hc13
      have hres := any_yes (p := fun x => decide (x = v)) hany (by omega) hyes
      refine W.seq ?_
      refine W.region (by rfl) ?_
      refine L.val (v := (.bool true)) rfl (op_assign rfl rfl) ?_
      refine L.nil ?_
      refine thenF_nor ?_
      refine W.ret ?_
      refine blockF_ret ?_
      refine thenF_ret ?_
      refine thenF_ret ?_
      refine blockF_ret ?_
      refine thenF_ret ?_
      exact end_ret1 (v := (.bool true)) rfl rfl ⟨(by rw [← hres]), hE⟩
    · have hp13 := hc13
      simp only [Bool.and_eq_true, Bool.or_eq_true, Bool.and_eq_false_iff, Bool.or_eq_false_iff, Bool.not_eq_true', Bool.not_eq_false', decide_eq_true_eq, decide_eq_false_iff_not] at hp13
      have hno := hc13
      refine W.skip ?_
      refine blockF_nor ?_
      refine thenF_nor ?_
      refine W.region (by rfl) ?_
      refine L.val rfl (op_move rfl s5) ?_
      refine L.val rfl (op_add (c := ((k + 1 : Nat) : Int)) rfl rfl rfl (by omega) (by omega)) ?_
      refine L.val rfl (op_assign rfl rfl) ?_
      refine L.nil ?_
      refine thenF_nor ?_
      exact ⟨k + 1, ⟨(by (try dsimp only); omega), (any_go hany (by omega) hno), s0, s3, rfl, hS2⟩, (by (try dsimp only); omega)⟩
  · have hp4 := hc4
    simp only [Bool.and_eq_true, Bool.or_eq_true, Bool.and_eq_false_iff, Bool.or_eq_false_iff, Bool.not_eq_true', Bool.not_eq_false', decide_eq_true_eq, decide_eq_false_iff_not] at hp4
    have hres := any_end hany (by omega)
    refine W.exit ?_
    refine thenF_exit ?_
    refine thenF_exit ?_
    refine blockF_hit ?_
    refine thenF_nor ?_
    refine W.seq ?_
    refine W.region (by rfl) ?_
    refine L.val (v := (.bool false)) rfl (op_assign rfl rfl) ?_
    refine L.nil ?_
    refine thenF_nor ?_
    refine W.ret ?_
    exact end_ret1 (v := (.bool false)) rfl rfl ⟨(by rw [← hres]), hE⟩

set_option maxRecDepth 100000 in
theorem same12_ok {A_a : Option Addr} {c_a lo_a hi_a : Nat} {a : List Vt} {A_b : Option Addr} {c_b lo_b hi_b : Nat} {b : List Vt}  {w : World} (hR_a : Rd w lo_a hi_a A_a a) (hR_b : Rd w lo_b hi_b A_b b) : Gives Try.prog 22 #[(.slice A_a a.length c_a), (.slice A_b b.length c_b)] w fun u w' => u = (.bool (decide (a = b))) ∧ Ext w w' := by
  have hE : Ext w w := Ext.refl w
  have hlen_a := hR_a.len
  have hlen_b := hR_b.len
  refine gives_of_W Try.func22 rfl Try.ntmps22 rfl ?_
  refine W.seq ?_
  refine W.region (by rfl) ?_
  refine L.val (v := (.bool false)) rfl (op_assign rfl rfl) ?_
  refine L.nil ?_
  refine thenF_nor ?_
  refine W.seq ?_
  refine W.seq ?_
  refine W.region (by rfl) ?_
  refine L.val rfl (op_move rfl rfl) ?_
  refine L.val rfl (op_len rfl rfl ln25) ?_
  refine L.val rfl (op_move rfl rfl) ?_
  refine L.val rfl (op_len rfl rfl ln25) ?_
  refine L.val rfl (op_neq rfl rfl rfl) ?_
  refine L.nil ?_
  refine thenF_nor ?_
  refine W.cond (t := !decide ((a.length : Int) = (b.length : Int))) rfl (fun hc1 => ?_) (fun hc1 => ?_)
  · have hp1 := hc1
    simp only [Bool.and_eq_true, Bool.or_eq_true, Bool.and_eq_false_iff, Bool.or_eq_false_iff, Bool.not_eq_true', Bool.not_eq_false', decide_eq_true_eq, decide_eq_false_iff_not] at hp1
    have hres : decide (a = b) = false := decide_eq_false (fun e => by subst e; omega)
    refine W.seq ?_
    refine W.region (by rfl) ?_
    refine L.val (v := (.bool false)) rfl (op_assign rfl rfl) ?_
    refine L.nil ?_
    refine thenF_nor ?_
    refine W.ret ?_
    refine thenF_ret ?_
    exact end_ret1 (v := (.bool false)) rfl rfl ⟨(by rw [hres]), hE⟩
  · have hp1 := hc1
    simp only [Bool.and_eq_true, Bool.or_eq_true, Bool.and_eq_false_iff, Bool.or_eq_false_iff, Bool.not_eq_true', Bool.not_eq_false', decide_eq_true_eq, decide_eq_false_iff_not] at hp1
    have hll : a.length = b.length := by omega
    refine W.skip ?_
    refine thenF_nor ?_
    refine W.seq ?_
    refine W.seq ?_
    refine W.region (by rfl) ?_
    refine L.val rfl (op_assign rfl rfl) ?_
    refine L.nil ?_
    refine thenF_nor ?_
    refine W.block ?_
    have S2_hR_a := hR_a
    have S2_hR_b := hR_b
    have S2_hE := hE
    have hS2 : Ext w w := Ext.refl _
    refine W.loopg (γ := Nat) (fun (k : Nat) (f : Fr) (ww : World) => k ≤ a.length ∧ a.take k = b.take k ∧ f 0 = (.slice A_a a.length c_a) ∧ f 1 = (.slice A_b b.length c_b) ∧ f 5 = (.int .i64 ((k : Nat) : Int)) ∧ Ext w ww) (fun (k : Nat) => a.length - k) 0 ⟨(by (try dsimp only); omega), rfl, rfl, rfl, rfl, hS2⟩ ?_
    rintro k f3 w3 ⟨hk, hsm, s3_0, s3_1, s3_5, hS2⟩
    have hR_a := S2_hR_a.ext hS2
    have hR_b := S2_hR_b.ext hS2
    have hE := S2_hE.trans hS2
    refine W.seq ?_
    refine W.seq ?_
    refine W.region (by rfl) ?_
    refine L.val rfl (op_move rfl s3_5) ?_
    refine L.val rfl (op_move rfl s3_0) ?_
    refine L.val rfl (op_len rfl rfl ln25) ?_
    refine L.val rfl (op_lss rfl rfl rfl) ?_
    refine L.nil ?_
    refine thenF_nor ?_
    refine W.cond (t := decide (((k : Nat) : Int) < (a.length : Int))) rfl (fun hc4 => ?_) (fun hc4 => ?_)
    · have hp4 := hc4
      simp only [Bool.and_eq_true, Bool.or_eq_true, Bool.and_eq_false_iff, Bool.or_eq_false_iff, Bool.not_eq_true', Bool.not_eq_false', decide_eq_true_eq, decide_eq_false_iff_not] at hp4
      refine W.skip ?_
      refine thenF_nor ?_
      refine W.seq ?_
      refine W.block ?_
      refine W.seq ?_
      refine W.drawS [Sp.eq (.slice A_a a.length c_a), Sp.eq (.int .i64 ((k : Nat) : Int)), Sp.eq (.pointer (some ((adr A_a).add (k * 22)))), Sp.eq (Enc.val (a[k]! : Vt)), Sp.eq (.slice A_b b.length c_b), Sp.eq (.int .i64 ((k : Nat) : Int)), Sp.eq (.pointer (some ((adr A_b).add (k * 22)))), Sp.eq (Enc.val (b[k]! : Vt)), Sp.eq (.bool (!decide (a[k]! = b[k]!)))] mixed (by rfl) (Obls.cons ?_ (Obls.cons ?_ (Obls.cons ?_ (Obls.cons ?_ (Obls.cons ?_ (Obls.cons ?_ (Obls.cons ?_ (Obls.cons ?_ (Obls.cons ?_ Obls.nil))))))))) ?_
      · intro f6 w6 hx6 ho6 hd6
        have d6_s0 : f6 0 = (.slice A_a a.length c_a) := (ho6 0 rfl).trans s3_0
        exact D.val rfl (op_move rfl d6_s0)
      · intro f7 w7 hx7 ho7 hd7
        have d7_s5 : f7 5 = (.int .i64 ((k : Nat) : Int)) := (ho7 5 rfl).trans s3_5
        exact D.val rfl (op_move rfl d7_s5)
      · intro f8 w8 hx8 ho8 hd8
        have d8_0 : f8 17 = (.slice A_a a.length c_a) := hd8 0 rfl
        have d8_1 : f8 18 = (.int .i64 ((k : Nat) : Int)) := hd8 1 rfl
        have hR_a := hR_a.ext hx8
        have hR_b := hR_b.ext hx8
        skip
        exact D.val rfl (op_index (k := k) rfl d8_0 d8_1 sl25 (hR_a.getA (get_bang (l := a) (k := k) (by omega))).1 rfl (by omega) rfl)
      · intro f9 w9 hx9 ho9 hd9
        have d9_2 : f9 19 = (.pointer (some ((adr A_a).add (k * 22)))) := hd9 2 rfl
        have hR_a := hR_a.ext hx9
        have hR_b := hR_b.ext hx9
        skip
        exact D.val rfl (op_load (v := (a[k]! : Vt)) rfl d9_2 ty28 (hR_a.getA (get_bang (l := a) (k := k) (by omega))).2)
      · intro f10 w10 hx10 ho10 hd10
        have d10_s1 : f10 1 = (.slice A_b b.length c_b) := (ho10 1 rfl).trans s3_1
        exact D.val rfl (op_move rfl d10_s1)
      · intro f11 w11 hx11 ho11 hd11
        have d11_s5 : f11 5 = (.int .i64 ((k : Nat) : Int)) := (ho11 5 rfl).trans s3_5
        exact D.val rfl (op_move rfl d11_s5)
      · intro f12 w12 hx12 ho12 hd12
        have d12_4 : f12 21 = (.slice A_b b.length c_b) := hd12 4 rfl
        have d12_5 : f12 22 = (.int .i64 ((k : Nat) : Int)) := hd12 5 rfl
        have hR_a := hR_a.ext hx12
        have hR_b := hR_b.ext hx12
        skip
        exact D.val rfl (op_index (k := k) rfl d12_4 d12_5 sl25 (hR_b.getA (get_bang (l := b) (k := k) (by omega))).1 rfl (by omega) rfl)
      · intro f13 w13 hx13 ho13 hd13
        have d13_6 : f13 23 = (.pointer (some ((adr A_b).add (k * 22)))) := hd13 6 rfl
        have hR_a := hR_a.ext hx13
        have hR_b := hR_b.ext hx13
        skip
        exact D.val rfl (op_load (v := (b[k]! : Vt)) rfl d13_6 ty28 (hR_b.getA (get_bang (l := b) (k := k) (by omega))).2)
      · intro f14 w14 hx14 ho14 hd14
        have d14_3 : f14 20 = (Enc.val (a[k]! : Vt)) := hd14 3 rfl
        have d14_7 : f14 24 = (Enc.val (b[k]! : Vt)) := hd14 7 rfl
        exact D.val rfl (op_neqe (a := (a[k]! : Vt)) (b := (b[k]! : Vt)) rfl d14_3 d14_7 eq28 (fun _ => ⟨_, rfl⟩) Try.eqGuardType28)
      intro f15 w15 hx15 ho15 hr15
      have s0 : f15 0 = (.slice A_a a.length c_a) := (ho15 0 rfl).trans s3_0
      have s1 : f15 1 = (.slice A_b b.length c_b) := (ho15 1 rfl).trans s3_1
      have s5 : f15 5 = (.int .i64 ((k : Nat) : Int)) := (ho15 5 rfl).trans s3_5
      have s14 : f15 14 = (.bool (decide (((k : Nat) : Int) < (a.length : Int)))) := ho15 14 rfl
      have s25 : f15 25 = (.bool (!decide (a[k]! = b[k]!))) := hr15 8 (by decide)
      have hE := hE.trans hx15
      have hS2 := hS2.trans hx15
      have hR_a := hR_a.ext hx15
      have hR_b := hR_b.ext hx15
      refine thenF_nor ?_
      refine W.cond (t := !decide (a[k]! = b[k]!)) s25 (fun hc16 => ?_) (fun hc16 => ?_)
      · have hp16 := hc16
        simp only [Bool.and_eq_true, Bool.or_eq_true, Bool.and_eq_false_iff, Bool.or_eq_false_iff, Bool.not_eq_true', Bool.not_eq_false', decide_eq_true_eq, decide_eq_false_iff_not] at hp16
        have hne := hc16
        simp only [Bool.not_eq_true', decide_eq_false_iff_not] at hne
        have hres : decide (a = b) = false := decide_eq_false (fun e => hne (by rw [e]))
        refine W.seq ?_
        refine W.region (by rfl) ?_
        refine L.val (v := (.bool false)) rfl (op_assign rfl rfl) ?_
        refine L.nil ?_
        refine thenF_nor ?_
        refine W.ret ?_
        refine blockF_ret ?_
        refine thenF_ret ?_
        refine thenF_ret ?_
        refine blockF_ret ?_
        refine thenF_ret ?_
        exact end_ret1 (v := (.bool false)) rfl rfl ⟨(by rw [hres]), hE⟩
      · have hp16 := hc16
        simp only [Bool.and_eq_true, Bool.or_eq_true, Bool.and_eq_false_iff, Bool.or_eq_false_iff, Bool.not_eq_true', Bool.not_eq_false', decide_eq_true_eq, decide_eq_false_iff_not] at hp16
        have heq := hc16
        simp only [Bool.not_eq_false', decide_eq_true_eq] at heq
        refine W.skip ?_
        refine blockF_nor ?_
        refine thenF_nor ?_
        refine W.region (by rfl) ?_
        refine L.val rfl (op_move rfl s5) ?_
        refine L.val rfl (op_add (c := ((k + 1 : Nat) : Int)) rfl rfl rfl (by omega) (by omega)) ?_
        refine L.val rfl (op_assign rfl rfl) ?_
        refine L.nil ?_
        refine thenF_nor ?_
        exact ⟨k + 1, ⟨(by (try dsimp only); omega), (by rw [take_bang (by omega), take_bang (by omega), hsm, heq]), s0, s1, rfl, hS2⟩, (by (try dsimp only); omega)⟩
    · have hp4 := hc4
      simp only [Bool.and_eq_true, Bool.or_eq_true, Bool.and_eq_false_iff, Bool.or_eq_false_iff, Bool.not_eq_true', Bool.not_eq_false', decide_eq_true_eq, decide_eq_false_iff_not] at hp4
      have hres : decide (a = b) = true := decide_eq_true (by rw [← List.take_of_length_le (l := a) (i := k) (by omega), hsm, List.take_of_length_le (by omega)])
      refine W.exit ?_
      refine thenF_exit ?_
      refine thenF_exit ?_
      refine blockF_hit ?_
      refine thenF_nor ?_
      refine W.seq ?_
      refine W.region (by rfl) ?_
      refine L.val (v := (.bool true)) rfl (op_assign rfl rfl) ?_
      refine L.nil ?_
      refine thenF_nor ?_
      refine W.ret ?_
      exact end_ret1 (v := (.bool true)) rfl rfl ⟨(by rw [hres]), hE⟩

set_option maxRecDepth 100000 in
set_option maxHeartbeats 8000000 in
theorem AcceptClosed_ok {m : Int} {parent : Nm} {A_l : Option Addr} {c_l lo_l hi_l : Nat} {l : List Vt}  {w : World} (hR_l : Rd w lo_l hi_l A_l l) (hcap_l : l.length ≤ c_l) : Gives Try.prog 3 #[(.int .i64 m), (Enc.val (parent : Nm)), (.slice A_l l.length c_l)] w fun u w' => u = (.bool true) ∧ Ext w w' := by
  have hE : Ext w w := Ext.refl w
  have hlen_l := hR_l.len
  refine gives_of_W Try.func3 rfl Try.ntmps3 rfl ?_
  have hal := acc_len m parent (l.take 120)
  have htl : (l.take 120).length ≤ 120 := List.length_take_le _ _
  refine W.seq ?_
  refine W.region (by rfl) ?_
  refine L.step rfl (op_box (cs := (Enc.cells (parent : Nm))) rfl rfl rfl) ?_
  rintro _ w1 ⟨b1, rfl, hb1, hB1, hx1⟩
  have hE := hE.trans hx1
  have hR_l := hR_l.ext hx1
  refine L.val (v := (.bool false)) rfl (op_assign rfl rfl) ?_
  refine L.nil ?_
  refine thenF_nor ?_
  have S2_hR_l := hR_l
  have S2_hB1 := hB1
  have S2_hE := hE
  have hS2 : Ext w1 w1 := Ext.refl _
  refine W.cut (fun (f : Fr) (ww : World) => f 0 = (.int .i64 m) ∧ f 4 = (.pointer (some ⟨b1, 0, none⟩)) ∧ f 6 = (.bool false) ∧ SlR ww (f 2) ((l.take 120) : List Vt) ∧ Ext w1 ww) ?_ ?_
  · refine W.seq ?_
    refine W.region (by rfl) ?_
    refine L.val rfl (op_move rfl rfl) ?_
    refine L.val rfl (op_len rfl rfl ln25) ?_
    refine L.val rfl (op_gtr rfl rfl rfl) ?_
    refine L.nil ?_
    refine thenF_nor ?_
    refine W.cond (t := decide (120 < (l.length : Int))) rfl (fun hc4 => ?_) (fun hc4 => ?_)
    · have hp4 := hc4
      simp only [Bool.and_eq_true, Bool.or_eq_true, Bool.and_eq_false_iff, Bool.or_eq_false_iff, Bool.not_eq_true', Bool.not_eq_false', decide_eq_true_eq, decide_eq_false_iff_not] at hp4
      refine W.region (by rfl) ?_
      refine L.val rfl (op_move rfl rfl) ?_
      refine L.step rfl (op_slr_h (k := 120) sl25 rfl rfl rfl (by omega) hcap_l hR_l) ?_
      rintro _ w5 ⟨⟨A5, c5, lo5, hi5, rfl, hcap5, hR5⟩, hx5⟩
      have hE := hE.trans hx5
      have hS2 := hS2.trans hx5
      have hR_l := hR_l.ext hx5
      have hB1 := hB1.ext hx5
      have hlen5 := hR5.len
      refine L.val rfl (op_assign rfl rfl) ?_
      refine L.nil ?_
      refine thenF_nor ?_
      exact ⟨rfl, rfl, rfl, (slr_at (v := (.slice A5 (l.take 120).length c5)) rfl ⟨_, _, _, _, rfl, hcap5, hR5⟩), hS2⟩
    · have hp4 := hc4
      simp only [Bool.and_eq_true, Bool.or_eq_true, Bool.and_eq_false_iff, Bool.or_eq_false_iff, Bool.not_eq_true', Bool.not_eq_false', decide_eq_true_eq, decide_eq_false_iff_not] at hp4
      refine W.skip ?_
      refine thenF_nor ?_
      exact ⟨rfl, rfl, rfl, (by rw [List.take_of_length_le (by omega)]; exact (slr_at (v := (.slice A_l l.length c_l)) rfl ⟨_, _, _, _, rfl, hcap_l, hR_l⟩)), hS2⟩
  · rintro f3 w3 ⟨s3_0, s3_4, s3_6, hL3_2, hS2⟩
    have hR_l := S2_hR_l.ext hS2
    have hB1 := S2_hB1.ext hS2
    have hE := S2_hE.trans hS2
    obtain ⟨A3_2, c3_2, lo3_2, hi3_2, s3_2, hcap3_2, hR3_2⟩ := hL3_2
    have hlen3_2 := hR3_2.len
    refine W.seq ?_
    refine W.region (by rfl) ?_
    refine L.val rfl (op_move rfl s3_0) ?_
    refine L.val rfl (op_load (v := (parent : Nm)) rfl s3_4 ty24 hB1.cells) ?_
    refine L.val rfl (op_move rfl s3_2) ?_
    refine L.step rfl (OpS.call (op_call rfl (argsC rfl (argsC rfl (argsC rfl argsN))) Try.func18 rfl rfl) (Accepted_ok hR3_2 (by first | omega | (simp only [List.length_drop, List.length_take, List.length_append, List.length_cons, List.length_nil] at *; omega)))) ?_
    rintro _ w6 ⟨⟨A6, c6, lo6, hi6, rfl, hcap6, hR6⟩, hx6⟩
    have hE := hE.trans hx6
    have hS2 := hS2.trans hx6
    have hR_l := hR_l.ext hx6
    have hB1 := hB1.ext hx6
    have hR3_2 := hR3_2.ext hx6
    have hlen6 := hR6.len
    refine L.val rfl (op_assign rfl rfl) ?_
    refine L.nil ?_
    refine thenF_nor ?_
    refine W.seq ?_
    refine W.seq ?_
    refine W.region (by rfl) ?_
    refine L.val rfl (op_assign rfl rfl) ?_
    refine L.nil ?_
    refine thenF_nor ?_
    refine W.block ?_
    have S7_hR_l := hR_l
    have S7_hB1 := hB1
    have S7_hR3_2 := hR3_2
    have S7_hR6 := hR6
    have S7_hE := hE
    have S7_hS2 := hS2
    have hS7 : Ext w6 w6 := Ext.refl _
    refine W.loopg (γ := Nat) (fun (k : Nat) (f : Fr) (ww : World) => k ≤ (accepted_f m parent (l.take 120)).length ∧ f 0 = (.int .i64 m) ∧ f 2 = (.slice A3_2 (l.take 120).length c3_2) ∧ f 4 = (.pointer (some ⟨b1, 0, none⟩)) ∧ f 7 = (.slice A6 (accepted_f m parent (l.take 120)).length c6) ∧ f 8 = (.int .i64 ((k : Nat) : Int)) ∧ Ext w6 ww) (fun (k : Nat) => (accepted_f m parent (l.take 120)).length - k) 0 ⟨(by (try dsimp only); omega), s3_0, s3_2, s3_4, rfl, rfl, hS7⟩ ?_
    rintro k f8 w8 ⟨hk, s8_0, s8_2, s8_4, s8_7, s8_8, hS7⟩
    have hR_l := S7_hR_l.ext hS7
    have hB1 := S7_hB1.ext hS7
    have hR3_2 := S7_hR3_2.ext hS7
    have hR6 := S7_hR6.ext hS7
    have hE := S7_hE.trans hS7
    have hS2 := S7_hS2.trans hS7
    refine W.seq ?_
    refine W.seq ?_
    refine W.region (by rfl) ?_
    refine L.val rfl (op_move rfl s8_8) ?_
    refine L.val rfl (op_move rfl s8_7) ?_
    refine L.val rfl (op_len rfl rfl ln25) ?_
    refine L.val rfl (op_lss rfl rfl rfl) ?_
    refine L.nil ?_
    refine thenF_nor ?_
    refine W.cond (t := decide (((k : Nat) : Int) < ((accepted_f m parent (l.take 120)).length : Int))) rfl (fun hc9 => ?_) (fun hc9 => ?_)
    · have hp9 := hc9
      simp only [Bool.and_eq_true, Bool.or_eq_true, Bool.and_eq_false_iff, Bool.or_eq_false_iff, Bool.not_eq_true', Bool.not_eq_false', decide_eq_true_eq, decide_eq_false_iff_not] at hp9
      refine W.skip ?_
      refine thenF_nor ?_
      refine W.seq ?_
      refine W.block ?_
      refine W.seq ?_
      refine W.drawS [Sp.eq (.slice A6 (accepted_f m parent (l.take 120)).length c6), Sp.eq (.int .i64 ((k : Nat) : Int)), Sp.eq (.pointer (some ((adr A6).add (k * 22)))), Sp.eq (.pointer (some (((adr A6).add (k * 22)).add 6))), Sp.eq (Enc.val (((accepted_f m parent (l.take 120))[k]!).parent)), Sp.eq (Enc.val (parent : Nm)), Sp.eq (.bool (!decide (((accepted_f m parent (l.take 120))[k]!).parent = parent))), Sp.eq (.bool (!decide (((accepted_f m parent (l.take 120))[k]!).parent = parent))), Sp.eq (vif (!(!decide (((accepted_f m parent (l.take 120))[k]!).parent = parent))) (.slice A3_2 (l.take 120).length c3_2)), Sp.eq (vif (!(!decide (((accepted_f m parent (l.take 120))[k]!).parent = parent))) (.slice A6 (accepted_f m parent (l.take 120)).length c6)), Sp.eq (vif (!(!decide (((accepted_f m parent (l.take 120))[k]!).parent = parent))) (.int .i64 ((k : Nat) : Int))), Sp.eq (vif (!(!decide (((accepted_f m parent (l.take 120))[k]!).parent = parent))) (.pointer (some ((adr A6).add (k * 22))))), Sp.eq (vif (!(!decide (((accepted_f m parent (l.take 120))[k]!).parent = parent))) (Enc.val ((accepted_f m parent (l.take 120))[k]!))), Sp.eq (vif (!(!decide (((accepted_f m parent (l.take 120))[k]!).parent = parent))) (.bool ((l.take 120).any (fun x => decide (x = (accepted_f m parent (l.take 120))[k]!))))), Sp.eq (vif (!(!decide (((accepted_f m parent (l.take 120))[k]!).parent = parent))) (.bool (!((l.take 120).any (fun x => decide (x = (accepted_f m parent (l.take 120))[k]!)))))), Sp.eq (.bool ((!decide (((accepted_f m parent (l.take 120))[k]!).parent = parent)) || (!((l.take 120).any (fun x => decide (x = (accepted_f m parent (l.take 120))[k]!)))))), Sp.eq (.bool ((!decide (((accepted_f m parent (l.take 120))[k]!).parent = parent)) || (!((l.take 120).any (fun x => decide (x = (accepted_f m parent (l.take 120))[k]!)))))), Sp.eq (vif (!((!decide (((accepted_f m parent (l.take 120))[k]!).parent = parent)) || (!((l.take 120).any (fun x => decide (x = (accepted_f m parent (l.take 120))[k]!)))))) (.int .i64 m)), Sp.eq (vif (!((!decide (((accepted_f m parent (l.take 120))[k]!).parent = parent)) || (!((l.take 120).any (fun x => decide (x = (accepted_f m parent (l.take 120))[k]!)))))) (.slice A6 (accepted_f m parent (l.take 120)).length c6)), Sp.eq (vif (!((!decide (((accepted_f m parent (l.take 120))[k]!).parent = parent)) || (!((l.take 120).any (fun x => decide (x = (accepted_f m parent (l.take 120))[k]!)))))) (.int .i64 ((k : Nat) : Int))), Sp.eq (vif (!((!decide (((accepted_f m parent (l.take 120))[k]!).parent = parent)) || (!((l.take 120).any (fun x => decide (x = (accepted_f m parent (l.take 120))[k]!)))))) (.pointer (some ((adr A6).add (k * 22))))), Sp.eq (vif (!((!decide (((accepted_f m parent (l.take 120))[k]!).parent = parent)) || (!((l.take 120).any (fun x => decide (x = (accepted_f m parent (l.take 120))[k]!)))))) (Enc.val ((accepted_f m parent (l.take 120))[k]!))), Sp.eq (vif (!((!decide (((accepted_f m parent (l.take 120))[k]!).parent = parent)) || (!((l.take 120).any (fun x => decide (x = (accepted_f m parent (l.take 120))[k]!)))))) (.slice A6 (accepted_f m parent (l.take 120)).length c6)), Sp.eq (vif (!((!decide (((accepted_f m parent (l.take 120))[k]!).parent = parent)) || (!((l.take 120).any (fun x => decide (x = (accepted_f m parent (l.take 120))[k]!)))))) (.bool (allowed_f m ((accepted_f m parent (l.take 120))[k]!) (accepted_f m parent (l.take 120))))), Sp.eq (vif (!((!decide (((accepted_f m parent (l.take 120))[k]!).parent = parent)) || (!((l.take 120).any (fun x => decide (x = (accepted_f m parent (l.take 120))[k]!)))))) (.bool (!(allowed_f m ((accepted_f m parent (l.take 120))[k]!) (accepted_f m parent (l.take 120)))))), Sp.eq (.bool (((!decide (((accepted_f m parent (l.take 120))[k]!).parent = parent)) || (!((l.take 120).any (fun x => decide (x = (accepted_f m parent (l.take 120))[k]!))))) || (!(allowed_f m ((accepted_f m parent (l.take 120))[k]!) (accepted_f m parent (l.take 120)))))), Sp.eq (.bool (((!decide (((accepted_f m parent (l.take 120))[k]!).parent = parent)) || (!((l.take 120).any (fun x => decide (x = (accepted_f m parent (l.take 120))[k]!))))) || (!(allowed_f m ((accepted_f m parent (l.take 120))[k]!) (accepted_f m parent (l.take 120)))))), Sp.eq (vif (!(((!decide (((accepted_f m parent (l.take 120))[k]!).parent = parent)) || (!((l.take 120).any (fun x => decide (x = (accepted_f m parent (l.take 120))[k]!))))) || (!(allowed_f m ((accepted_f m parent (l.take 120))[k]!) (accepted_f m parent (l.take 120)))))) (.int .i64 ((k : Nat) : Int))), Sp.eq (vif (!(((!decide (((accepted_f m parent (l.take 120))[k]!).parent = parent)) || (!((l.take 120).any (fun x => decide (x = (accepted_f m parent (l.take 120))[k]!))))) || (!(allowed_f m ((accepted_f m parent (l.take 120))[k]!) (accepted_f m parent (l.take 120)))))) (.bool (decide (0 < ((k : Nat) : Int))))), Sp.eq (vif (!(((!decide (((accepted_f m parent (l.take 120))[k]!).parent = parent)) || (!((l.take 120).any (fun x => decide (x = (accepted_f m parent (l.take 120))[k]!))))) || (!(allowed_f m ((accepted_f m parent (l.take 120))[k]!) (accepted_f m parent (l.take 120)))))) (.bool (decide (0 < ((k : Nat) : Int))))), Sp.eq (vif ((!(((!decide (((accepted_f m parent (l.take 120))[k]!).parent = parent)) || (!((l.take 120).any (fun x => decide (x = (accepted_f m parent (l.take 120))[k]!))))) || (!(allowed_f m ((accepted_f m parent (l.take 120))[k]!) (accepted_f m parent (l.take 120)))))) && ((decide (0 < ((k : Nat) : Int))) == true)) (.slice A6 (accepted_f m parent (l.take 120)).length c6)), Sp.eq (vif ((!(((!decide (((accepted_f m parent (l.take 120))[k]!).parent = parent)) || (!((l.take 120).any (fun x => decide (x = (accepted_f m parent (l.take 120))[k]!))))) || (!(allowed_f m ((accepted_f m parent (l.take 120))[k]!) (accepted_f m parent (l.take 120)))))) && ((decide (0 < ((k : Nat) : Int))) == true)) (.int .i64 ((k : Nat) : Int))), Sp.eq (vif ((!(((!decide (((accepted_f m parent (l.take 120))[k]!).parent = parent)) || (!((l.take 120).any (fun x => decide (x = (accepted_f m parent (l.take 120))[k]!))))) || (!(allowed_f m ((accepted_f m parent (l.take 120))[k]!) (accepted_f m parent (l.take 120)))))) && ((decide (0 < ((k : Nat) : Int))) == true)) (.int .i64 ((k - 1 : Nat) : Int))), Sp.eq (vif ((!(((!decide (((accepted_f m parent (l.take 120))[k]!).parent = parent)) || (!((l.take 120).any (fun x => decide (x = (accepted_f m parent (l.take 120))[k]!))))) || (!(allowed_f m ((accepted_f m parent (l.take 120))[k]!) (accepted_f m parent (l.take 120)))))) && ((decide (0 < ((k : Nat) : Int))) == true)) (.pointer (some ((adr A6).add ((k - 1) * 22))))), Sp.eq (vif ((!(((!decide (((accepted_f m parent (l.take 120))[k]!).parent = parent)) || (!((l.take 120).any (fun x => decide (x = (accepted_f m parent (l.take 120))[k]!))))) || (!(allowed_f m ((accepted_f m parent (l.take 120))[k]!) (accepted_f m parent (l.take 120)))))) && ((decide (0 < ((k : Nat) : Int))) == true)) (Enc.val ((accepted_f m parent (l.take 120))[k - 1]!))), Sp.eq (vif ((!(((!decide (((accepted_f m parent (l.take 120))[k]!).parent = parent)) || (!((l.take 120).any (fun x => decide (x = (accepted_f m parent (l.take 120))[k]!))))) || (!(allowed_f m ((accepted_f m parent (l.take 120))[k]!) (accepted_f m parent (l.take 120)))))) && ((decide (0 < ((k : Nat) : Int))) == true)) (.slice A6 (accepted_f m parent (l.take 120)).length c6)), Sp.eq (vif ((!(((!decide (((accepted_f m parent (l.take 120))[k]!).parent = parent)) || (!((l.take 120).any (fun x => decide (x = (accepted_f m parent (l.take 120))[k]!))))) || (!(allowed_f m ((accepted_f m parent (l.take 120))[k]!) (accepted_f m parent (l.take 120)))))) && ((decide (0 < ((k : Nat) : Int))) == true)) (.int .i64 ((k : Nat) : Int))), Sp.eq (vif ((!(((!decide (((accepted_f m parent (l.take 120))[k]!).parent = parent)) || (!((l.take 120).any (fun x => decide (x = (accepted_f m parent (l.take 120))[k]!))))) || (!(allowed_f m ((accepted_f m parent (l.take 120))[k]!) (accepted_f m parent (l.take 120)))))) && ((decide (0 < ((k : Nat) : Int))) == true)) (.pointer (some ((adr A6).add (k * 22))))), Sp.eq (vif ((!(((!decide (((accepted_f m parent (l.take 120))[k]!).parent = parent)) || (!((l.take 120).any (fun x => decide (x = (accepted_f m parent (l.take 120))[k]!))))) || (!(allowed_f m ((accepted_f m parent (l.take 120))[k]!) (accepted_f m parent (l.take 120)))))) && ((decide (0 < ((k : Nat) : Int))) == true)) (Enc.val ((accepted_f m parent (l.take 120))[k]!))), Sp.eq (vif ((!(((!decide (((accepted_f m parent (l.take 120))[k]!).parent = parent)) || (!((l.take 120).any (fun x => decide (x = (accepted_f m parent (l.take 120))[k]!))))) || (!(allowed_f m ((accepted_f m parent (l.take 120))[k]!) (accepted_f m parent (l.take 120)))))) && ((decide (0 < ((k : Nat) : Int))) == true)) (.bool (voteLess_f ((accepted_f m parent (l.take 120))[k - 1]!) ((accepted_f m parent (l.take 120))[k]!)))), Sp.eq (vif ((!(((!decide (((accepted_f m parent (l.take 120))[k]!).parent = parent)) || (!((l.take 120).any (fun x => decide (x = (accepted_f m parent (l.take 120))[k]!))))) || (!(allowed_f m ((accepted_f m parent (l.take 120))[k]!) (accepted_f m parent (l.take 120)))))) && ((decide (0 < ((k : Nat) : Int))) == true)) (.bool (!(voteLess_f ((accepted_f m parent (l.take 120))[k - 1]!) ((accepted_f m parent (l.take 120))[k]!))))), Sp.eq (vif (!(((!decide (((accepted_f m parent (l.take 120))[k]!).parent = parent)) || (!((l.take 120).any (fun x => decide (x = (accepted_f m parent (l.take 120))[k]!))))) || (!(allowed_f m ((accepted_f m parent (l.take 120))[k]!) (accepted_f m parent (l.take 120)))))) (.bool ((decide (0 < ((k : Nat) : Int))) && (!(voteLess_f ((accepted_f m parent (l.take 120))[k - 1]!) ((accepted_f m parent (l.take 120))[k]!)))))), Sp.eq (.bool ((((!decide (((accepted_f m parent (l.take 120))[k]!).parent = parent)) || (!((l.take 120).any (fun x => decide (x = (accepted_f m parent (l.take 120))[k]!))))) || (!(allowed_f m ((accepted_f m parent (l.take 120))[k]!) (accepted_f m parent (l.take 120))))) || ((decide (0 < ((k : Nat) : Int))) && (!(voteLess_f ((accepted_f m parent (l.take 120))[k - 1]!) ((accepted_f m parent (l.take 120))[k]!))))))] mixed (by rfl) (Obls.cons ?_ (Obls.cons ?_ (Obls.cons ?_ (Obls.cons ?_ (Obls.cons ?_ (Obls.cons ?_ (Obls.cons ?_ (Obls.cons ?_ (Obls.cons ?_ (Obls.cons ?_ (Obls.cons ?_ (Obls.cons ?_ (Obls.cons ?_ (Obls.cons ?_ (Obls.cons ?_ (Obls.cons ?_ (Obls.cons ?_ (Obls.cons ?_ (Obls.cons ?_ (Obls.cons ?_ (Obls.cons ?_ (Obls.cons ?_ (Obls.cons ?_ (Obls.cons ?_ (Obls.cons ?_ (Obls.cons ?_ (Obls.cons ?_ (Obls.cons ?_ (Obls.cons ?_ (Obls.cons ?_ (Obls.cons ?_ (Obls.cons ?_ (Obls.cons ?_ (Obls.cons ?_ (Obls.cons ?_ (Obls.cons ?_ (Obls.cons ?_ (Obls.cons ?_ (Obls.cons ?_ (Obls.cons ?_ (Obls.cons ?_ (Obls.cons ?_ (Obls.cons ?_ Obls.nil))))))))))))))))))))))))))))))))))))))))))) ?_
      · intro f11 w11 hx11 ho11 hd11
        have d11_s7 : f11 7 = (.slice A6 (accepted_f m parent (l.take 120)).length c6) := (ho11 7 rfl).trans s8_7
        exact D.val rfl (op_move rfl d11_s7)
      · intro f12 w12 hx12 ho12 hd12
        have d12_s8 : f12 8 = (.int .i64 ((k : Nat) : Int)) := (ho12 8 rfl).trans s8_8
        exact D.val rfl (op_move rfl d12_s8)
      · intro f13 w13 hx13 ho13 hd13
        have d13_0 : f13 25 = (.slice A6 (accepted_f m parent (l.take 120)).length c6) := hd13 0 rfl
        have d13_1 : f13 26 = (.int .i64 ((k : Nat) : Int)) := hd13 1 rfl
        have hR_l := hR_l.ext hx13
        have hB1 := hB1.ext hx13
        have hR3_2 := hR3_2.ext hx13
        have hR6 := hR6.ext hx13
        skip
        exact D.val rfl (op_index (k := k) rfl d13_0 d13_1 sl25 (hR6.getA (get_bang (l := accepted_f m parent (l.take 120)) (k := k) (by omega))).1 rfl (by omega) rfl)
      · intro f14 w14 hx14 ho14 hd14
        have d14_2 : f14 27 = (.pointer (some ((adr A6).add (k * 22)))) := hd14 2 rfl
        exact D.val rfl (op_field rfl d14_2 fo28_6 rfl)
      · intro f15 w15 hx15 ho15 hd15
        have d15_3 : f15 28 = (.pointer (some (((adr A6).add (k * 22)).add 6))) := hd15 3 rfl
        have hR_l := hR_l.ext hx15
        have hB1 := hB1.ext hx15
        have hR3_2 := hR3_2.ext hx15
        have hR6 := hR6.ext hx15
        skip
        exact D.val rfl (op_load (v := (((accepted_f m parent (l.take 120))[k]!).parent : Nm)) rfl d15_3 ty24 (sub_nm 6 (hR6.getA (get_bang (l := accepted_f m parent (l.take 120)) (k := k) (by omega))).2 rfl))
      · intro f16 w16 hx16 ho16 hd16
        have d16_s4 : f16 4 = (.pointer (some ⟨b1, 0, none⟩)) := (ho16 4 rfl).trans s8_4
        have hR_l := hR_l.ext hx16
        have hB1 := hB1.ext hx16
        have hR3_2 := hR3_2.ext hx16
        have hR6 := hR6.ext hx16
        exact D.val rfl (op_load (v := (parent : Nm)) rfl d16_s4 ty24 hB1.cells)
      · intro f17 w17 hx17 ho17 hd17
        have d17_4 : f17 29 = (Enc.val (((accepted_f m parent (l.take 120))[k]!).parent)) := hd17 4 rfl
        have d17_5 : f17 30 = (Enc.val (parent : Nm)) := hd17 5 rfl
        exact D.val rfl (op_neqe (a := (((accepted_f m parent (l.take 120))[k]!).parent : Nm)) (b := (parent : Nm)) rfl d17_4 d17_5 eq24 (fun _ => ⟨_, rfl⟩) Try.eqGuardType24)
      · intro f18 w18 hx18 ho18 hd18
        have d18_6 : f18 31 = (.bool (!decide (((accepted_f m parent (l.take 120))[k]!).parent = parent))) := hd18 6 rfl
        exact D.val rfl (op_move rfl d18_6)
      · intro f19 w19 hx19 ho19 hd19
        have d19_s2 : f19 2 = (.slice A3_2 (l.take 120).length c3_2) := (ho19 2 rfl).trans s8_2
        have d19_7 : f19 32 = (.bool (!decide (((accepted_f m parent (l.take 120))[k]!).parent = parent))) := hd19 7 rfl
        exact D.guardv (wanted_no rfl rfl d19_7) (fun hg => (op_move rfl d19_s2))
      · intro f20 w20 hx20 ho20 hd20
        have d20_s7 : f20 7 = (.slice A6 (accepted_f m parent (l.take 120)).length c6) := (ho20 7 rfl).trans s8_7
        have d20_7 : f20 32 = (.bool (!decide (((accepted_f m parent (l.take 120))[k]!).parent = parent))) := hd20 7 rfl
        exact D.guardv (wanted_no rfl rfl d20_7) (fun hg => (op_move rfl d20_s7))
      · intro f21 w21 hx21 ho21 hd21
        have d21_s8 : f21 8 = (.int .i64 ((k : Nat) : Int)) := (ho21 8 rfl).trans s8_8
        have d21_7 : f21 32 = (.bool (!decide (((accepted_f m parent (l.take 120))[k]!).parent = parent))) := hd21 7 rfl
        exact D.guardv (wanted_no rfl rfl d21_7) (fun hg => (op_move rfl d21_s8))
      · intro f22 w22 hx22 ho22 hd22
        have d22_7 : f22 32 = (.bool (!decide (((accepted_f m parent (l.take 120))[k]!).parent = parent))) := hd22 7 rfl
        have d22_9 : f22 34 = (vif (!(!decide (((accepted_f m parent (l.take 120))[k]!).parent = parent))) (.slice A6 (accepted_f m parent (l.take 120)).length c6)) := hd22 9 rfl
        have d22_10 : f22 35 = (vif (!(!decide (((accepted_f m parent (l.take 120))[k]!).parent = parent))) (.int .i64 ((k : Nat) : Int))) := hd22 10 rfl
        have hR_l := hR_l.ext hx22
        have hB1 := hB1.ext hx22
        have hR3_2 := hR3_2.ext hx22
        have hR6 := hR6.ext hx22
        exact D.guardv (wanted_no rfl rfl d22_7) (fun hg => by have hp := hg; simp only [Bool.and_eq_true, Bool.or_eq_true, Bool.not_eq_true', decide_eq_true_eq, decide_eq_false_iff_not, bne_iff_ne, beq_iff_eq] at hp; skip; exact (op_index (k := k) rfl ((show _ = vif _ (.slice A6 (accepted_f m parent (l.take 120)).length c6) from d22_9).trans (vif_t hg).symm) ((show _ = vif _ (.int .i64 ((k : Nat) : Int)) from d22_10).trans (vif_t hg).symm) sl25 (hR6.getA (get_bang (l := accepted_f m parent (l.take 120)) (k := k) (by omega))).1 rfl (by omega) rfl))
      · intro f23 w23 hx23 ho23 hd23
        have d23_7 : f23 32 = (.bool (!decide (((accepted_f m parent (l.take 120))[k]!).parent = parent))) := hd23 7 rfl
        have d23_11 : f23 36 = (vif (!(!decide (((accepted_f m parent (l.take 120))[k]!).parent = parent))) (.pointer (some ((adr A6).add (k * 22))))) := hd23 11 rfl
        have hR_l := hR_l.ext hx23
        have hB1 := hB1.ext hx23
        have hR3_2 := hR3_2.ext hx23
        have hR6 := hR6.ext hx23
        exact D.guardv (wanted_no rfl rfl d23_7) (fun hg => by have hp := hg; simp only [Bool.and_eq_true, Bool.or_eq_true, Bool.not_eq_true', decide_eq_true_eq, decide_eq_false_iff_not, bne_iff_ne, beq_iff_eq] at hp; skip; exact (op_load (v := (accepted_f m parent (l.take 120))[k]!) rfl ((show _ = vif _ (.pointer (some ((adr A6).add (k * 22)))) from d23_11).trans (vif_t hg).symm) ty28 (hR6.getA (get_bang (l := accepted_f m parent (l.take 120)) (k := k) (by omega))).2))
      · intro f24 w24 hx24 ho24 hd24
        have d24_7 : f24 32 = (.bool (!decide (((accepted_f m parent (l.take 120))[k]!).parent = parent))) := hd24 7 rfl
        have d24_8 : f24 33 = (vif (!(!decide (((accepted_f m parent (l.take 120))[k]!).parent = parent))) (.slice A3_2 (l.take 120).length c3_2)) := hd24 8 rfl
        have d24_12 : f24 37 = (vif (!(!decide (((accepted_f m parent (l.take 120))[k]!).parent = parent))) (Enc.val ((accepted_f m parent (l.take 120))[k]!))) := hd24 12 rfl
        have hR_l := hR_l.ext hx24
        have hB1 := hB1.ext hx24
        have hR3_2 := hR3_2.ext hx24
        have hR6 := hR6.ext hx24
        exact D.guardc (wanted_no rfl rfl d24_7) (fun hg => (OpS.call (op_call rfl (argsC ((show _ = vif _ (.slice A3_2 (l.take 120).length c3_2) from d24_8).trans (vif_t hg).symm) (argsC ((show _ = vif _ (Enc.val ((accepted_f m parent (l.take 120))[k]!)) from d24_12).trans (vif_t hg).symm) argsN)) Try.func19 rfl rfl) (has12_ok hR3_2)))
      · intro f25 w25 hx25 ho25 hd25
        have d25_7 : f25 32 = (.bool (!decide (((accepted_f m parent (l.take 120))[k]!).parent = parent))) := hd25 7 rfl
        have d25_13 : f25 38 = (vif (!(!decide (((accepted_f m parent (l.take 120))[k]!).parent = parent))) (.bool ((l.take 120).any (fun x => decide (x = (accepted_f m parent (l.take 120))[k]!))))) := hd25 13 rfl
        exact D.guardv (wanted_no rfl rfl d25_7) (fun hg => (op_not rfl ((show _ = vif _ (.bool ((l.take 120).any (fun x => decide (x = (accepted_f m parent (l.take 120))[k]!)))) from d25_13).trans (vif_t hg).symm)))
      · intro f26 w26 hx26 ho26 hd26
        have d26_7 : f26 32 = (.bool (!decide (((accepted_f m parent (l.take 120))[k]!).parent = parent))) := hd26 7 rfl
        have d26_14 : f26 39 = (vif (!(!decide (((accepted_f m parent (l.take 120))[k]!).parent = parent))) (.bool (!((l.take 120).any (fun x => decide (x = (accepted_f m parent (l.take 120))[k]!)))))) := hd26 14 rfl
        exact D.val rfl (op_or rfl d26_7 rfl d26_14)
      · intro f27 w27 hx27 ho27 hd27
        have d27_15 : f27 40 = (.bool ((!decide (((accepted_f m parent (l.take 120))[k]!).parent = parent)) || (!((l.take 120).any (fun x => decide (x = (accepted_f m parent (l.take 120))[k]!)))))) := hd27 15 rfl
        exact D.val rfl (op_move rfl d27_15)
      · intro f28 w28 hx28 ho28 hd28
        have d28_s0 : f28 0 = (.int .i64 m) := (ho28 0 rfl).trans s8_0
        have d28_16 : f28 41 = (.bool ((!decide (((accepted_f m parent (l.take 120))[k]!).parent = parent)) || (!((l.take 120).any (fun x => decide (x = (accepted_f m parent (l.take 120))[k]!)))))) := hd28 16 rfl
        exact D.guardv (wanted_no rfl rfl d28_16) (fun hg => (op_move rfl d28_s0))
      · intro f29 w29 hx29 ho29 hd29
        have d29_s7 : f29 7 = (.slice A6 (accepted_f m parent (l.take 120)).length c6) := (ho29 7 rfl).trans s8_7
        have d29_16 : f29 41 = (.bool ((!decide (((accepted_f m parent (l.take 120))[k]!).parent = parent)) || (!((l.take 120).any (fun x => decide (x = (accepted_f m parent (l.take 120))[k]!)))))) := hd29 16 rfl
        exact D.guardv (wanted_no rfl rfl d29_16) (fun hg => (op_move rfl d29_s7))
      · intro f30 w30 hx30 ho30 hd30
        have d30_s8 : f30 8 = (.int .i64 ((k : Nat) : Int)) := (ho30 8 rfl).trans s8_8
        have d30_16 : f30 41 = (.bool ((!decide (((accepted_f m parent (l.take 120))[k]!).parent = parent)) || (!((l.take 120).any (fun x => decide (x = (accepted_f m parent (l.take 120))[k]!)))))) := hd30 16 rfl
        exact D.guardv (wanted_no rfl rfl d30_16) (fun hg => (op_move rfl d30_s8))
      · intro f31 w31 hx31 ho31 hd31
        have d31_16 : f31 41 = (.bool ((!decide (((accepted_f m parent (l.take 120))[k]!).parent = parent)) || (!((l.take 120).any (fun x => decide (x = (accepted_f m parent (l.take 120))[k]!)))))) := hd31 16 rfl
        have d31_18 : f31 43 = (vif (!((!decide (((accepted_f m parent (l.take 120))[k]!).parent = parent)) || (!((l.take 120).any (fun x => decide (x = (accepted_f m parent (l.take 120))[k]!)))))) (.slice A6 (accepted_f m parent (l.take 120)).length c6)) := hd31 18 rfl
        have d31_19 : f31 44 = (vif (!((!decide (((accepted_f m parent (l.take 120))[k]!).parent = parent)) || (!((l.take 120).any (fun x => decide (x = (accepted_f m parent (l.take 120))[k]!)))))) (.int .i64 ((k : Nat) : Int))) := hd31 19 rfl
        have hR_l := hR_l.ext hx31
        have hB1 := hB1.ext hx31
        have hR3_2 := hR3_2.ext hx31
        have hR6 := hR6.ext hx31
        exact D.guardv (wanted_no rfl rfl d31_16) (fun hg => by have hp := hg; simp only [Bool.and_eq_true, Bool.or_eq_true, Bool.not_eq_true', decide_eq_true_eq, decide_eq_false_iff_not, bne_iff_ne, beq_iff_eq] at hp; skip; exact (op_index (k := k) rfl ((show _ = vif _ (.slice A6 (accepted_f m parent (l.take 120)).length c6) from d31_18).trans (vif_t hg).symm) ((show _ = vif _ (.int .i64 ((k : Nat) : Int)) from d31_19).trans (vif_t hg).symm) sl25 (hR6.getA (get_bang (l := accepted_f m parent (l.take 120)) (k := k) (by omega))).1 rfl (by omega) rfl))
      · intro f32 w32 hx32 ho32 hd32
        have d32_16 : f32 41 = (.bool ((!decide (((accepted_f m parent (l.take 120))[k]!).parent = parent)) || (!((l.take 120).any (fun x => decide (x = (accepted_f m parent (l.take 120))[k]!)))))) := hd32 16 rfl
        have d32_20 : f32 45 = (vif (!((!decide (((accepted_f m parent (l.take 120))[k]!).parent = parent)) || (!((l.take 120).any (fun x => decide (x = (accepted_f m parent (l.take 120))[k]!)))))) (.pointer (some ((adr A6).add (k * 22))))) := hd32 20 rfl
        have hR_l := hR_l.ext hx32
        have hB1 := hB1.ext hx32
        have hR3_2 := hR3_2.ext hx32
        have hR6 := hR6.ext hx32
        exact D.guardv (wanted_no rfl rfl d32_16) (fun hg => by have hp := hg; simp only [Bool.and_eq_true, Bool.or_eq_true, Bool.not_eq_true', decide_eq_true_eq, decide_eq_false_iff_not, bne_iff_ne, beq_iff_eq] at hp; skip; exact (op_load (v := (accepted_f m parent (l.take 120))[k]!) rfl ((show _ = vif _ (.pointer (some ((adr A6).add (k * 22)))) from d32_20).trans (vif_t hg).symm) ty28 (hR6.getA (get_bang (l := accepted_f m parent (l.take 120)) (k := k) (by omega))).2))
      · intro f33 w33 hx33 ho33 hd33
        have d33_s7 : f33 7 = (.slice A6 (accepted_f m parent (l.take 120)).length c6) := (ho33 7 rfl).trans s8_7
        have d33_16 : f33 41 = (.bool ((!decide (((accepted_f m parent (l.take 120))[k]!).parent = parent)) || (!((l.take 120).any (fun x => decide (x = (accepted_f m parent (l.take 120))[k]!)))))) := hd33 16 rfl
        exact D.guardv (wanted_no rfl rfl d33_16) (fun hg => (op_move rfl d33_s7))
      · intro f34 w34 hx34 ho34 hd34
        have d34_16 : f34 41 = (.bool ((!decide (((accepted_f m parent (l.take 120))[k]!).parent = parent)) || (!((l.take 120).any (fun x => decide (x = (accepted_f m parent (l.take 120))[k]!)))))) := hd34 16 rfl
        have d34_17 : f34 42 = (vif (!((!decide (((accepted_f m parent (l.take 120))[k]!).parent = parent)) || (!((l.take 120).any (fun x => decide (x = (accepted_f m parent (l.take 120))[k]!)))))) (.int .i64 m)) := hd34 17 rfl
        have d34_21 : f34 46 = (vif (!((!decide (((accepted_f m parent (l.take 120))[k]!).parent = parent)) || (!((l.take 120).any (fun x => decide (x = (accepted_f m parent (l.take 120))[k]!)))))) (Enc.val ((accepted_f m parent (l.take 120))[k]!))) := hd34 21 rfl
        have d34_22 : f34 47 = (vif (!((!decide (((accepted_f m parent (l.take 120))[k]!).parent = parent)) || (!((l.take 120).any (fun x => decide (x = (accepted_f m parent (l.take 120))[k]!)))))) (.slice A6 (accepted_f m parent (l.take 120)).length c6)) := hd34 22 rfl
        have hR_l := hR_l.ext hx34
        have hB1 := hB1.ext hx34
        have hR3_2 := hR3_2.ext hx34
        have hR6 := hR6.ext hx34
        exact D.guardc (wanted_no rfl rfl d34_16) (fun hg => by have hp := hg; simp only [Bool.and_eq_true, Bool.or_eq_true, Bool.not_eq_true', decide_eq_true_eq, decide_eq_false_iff_not, bne_iff_ne, beq_iff_eq] at hp; exact (OpS.call (op_call rfl (argsC ((show _ = vif _ (.int .i64 m) from d34_17).trans (vif_t hg).symm) (argsC ((show _ = vif _ (Enc.val ((accepted_f m parent (l.take 120))[k]!)) from d34_21).trans (vif_t hg).symm) (argsC ((show _ = vif _ (.slice A6 (accepted_f m parent (l.take 120)).length c6) from d34_22).trans (vif_t hg).symm) argsN))) Try.func20 rfl rfl) (Allowed_ok hR6 (by first | omega | (simp only [List.length_drop, List.length_take, List.length_append, List.length_cons, List.length_nil] at *; omega)))))
      · intro f35 w35 hx35 ho35 hd35
        have d35_16 : f35 41 = (.bool ((!decide (((accepted_f m parent (l.take 120))[k]!).parent = parent)) || (!((l.take 120).any (fun x => decide (x = (accepted_f m parent (l.take 120))[k]!)))))) := hd35 16 rfl
        have d35_23 : f35 48 = (vif (!((!decide (((accepted_f m parent (l.take 120))[k]!).parent = parent)) || (!((l.take 120).any (fun x => decide (x = (accepted_f m parent (l.take 120))[k]!)))))) (.bool (allowed_f m ((accepted_f m parent (l.take 120))[k]!) (accepted_f m parent (l.take 120))))) := hd35 23 rfl
        exact D.guardv (wanted_no rfl rfl d35_16) (fun hg => (op_not rfl ((show _ = vif _ (.bool (allowed_f m ((accepted_f m parent (l.take 120))[k]!) (accepted_f m parent (l.take 120)))) from d35_23).trans (vif_t hg).symm)))
      · intro f36 w36 hx36 ho36 hd36
        have d36_16 : f36 41 = (.bool ((!decide (((accepted_f m parent (l.take 120))[k]!).parent = parent)) || (!((l.take 120).any (fun x => decide (x = (accepted_f m parent (l.take 120))[k]!)))))) := hd36 16 rfl
        have d36_24 : f36 49 = (vif (!((!decide (((accepted_f m parent (l.take 120))[k]!).parent = parent)) || (!((l.take 120).any (fun x => decide (x = (accepted_f m parent (l.take 120))[k]!)))))) (.bool (!(allowed_f m ((accepted_f m parent (l.take 120))[k]!) (accepted_f m parent (l.take 120)))))) := hd36 24 rfl
        exact D.val rfl (op_or rfl d36_16 rfl d36_24)
      · intro f37 w37 hx37 ho37 hd37
        have d37_25 : f37 50 = (.bool (((!decide (((accepted_f m parent (l.take 120))[k]!).parent = parent)) || (!((l.take 120).any (fun x => decide (x = (accepted_f m parent (l.take 120))[k]!))))) || (!(allowed_f m ((accepted_f m parent (l.take 120))[k]!) (accepted_f m parent (l.take 120)))))) := hd37 25 rfl
        exact D.val rfl (op_move rfl d37_25)
      · intro f38 w38 hx38 ho38 hd38
        have d38_s8 : f38 8 = (.int .i64 ((k : Nat) : Int)) := (ho38 8 rfl).trans s8_8
        have d38_26 : f38 51 = (.bool (((!decide (((accepted_f m parent (l.take 120))[k]!).parent = parent)) || (!((l.take 120).any (fun x => decide (x = (accepted_f m parent (l.take 120))[k]!))))) || (!(allowed_f m ((accepted_f m parent (l.take 120))[k]!) (accepted_f m parent (l.take 120)))))) := hd38 26 rfl
        exact D.guardv (wanted_no rfl rfl d38_26) (fun hg => (op_move rfl d38_s8))
      · intro f39 w39 hx39 ho39 hd39
        have d39_26 : f39 51 = (.bool (((!decide (((accepted_f m parent (l.take 120))[k]!).parent = parent)) || (!((l.take 120).any (fun x => decide (x = (accepted_f m parent (l.take 120))[k]!))))) || (!(allowed_f m ((accepted_f m parent (l.take 120))[k]!) (accepted_f m parent (l.take 120)))))) := hd39 26 rfl
        have d39_27 : f39 52 = (vif (!(((!decide (((accepted_f m parent (l.take 120))[k]!).parent = parent)) || (!((l.take 120).any (fun x => decide (x = (accepted_f m parent (l.take 120))[k]!))))) || (!(allowed_f m ((accepted_f m parent (l.take 120))[k]!) (accepted_f m parent (l.take 120)))))) (.int .i64 ((k : Nat) : Int))) := hd39 27 rfl
        exact D.guardv (wanted_no rfl rfl d39_26) (fun hg => (op_gtr rfl ((show _ = vif _ (.int .i64 ((k : Nat) : Int)) from d39_27).trans (vif_t hg).symm) rfl))
      · intro f40 w40 hx40 ho40 hd40
        have d40_26 : f40 51 = (.bool (((!decide (((accepted_f m parent (l.take 120))[k]!).parent = parent)) || (!((l.take 120).any (fun x => decide (x = (accepted_f m parent (l.take 120))[k]!))))) || (!(allowed_f m ((accepted_f m parent (l.take 120))[k]!) (accepted_f m parent (l.take 120)))))) := hd40 26 rfl
        have d40_28 : f40 53 = (vif (!(((!decide (((accepted_f m parent (l.take 120))[k]!).parent = parent)) || (!((l.take 120).any (fun x => decide (x = (accepted_f m parent (l.take 120))[k]!))))) || (!(allowed_f m ((accepted_f m parent (l.take 120))[k]!) (accepted_f m parent (l.take 120)))))) (.bool (decide (0 < ((k : Nat) : Int))))) := hd40 28 rfl
        exact D.guardv (wanted_no rfl rfl d40_26) (fun hg => (op_move rfl ((show _ = vif _ (.bool (decide (0 < ((k : Nat) : Int)))) from d40_28).trans (vif_t hg).symm)))
      · intro f41 w41 hx41 ho41 hd41
        have d41_s7 : f41 7 = (.slice A6 (accepted_f m parent (l.take 120)).length c6) := (ho41 7 rfl).trans s8_7
        have d41_29 : f41 54 = (vif (!(((!decide (((accepted_f m parent (l.take 120))[k]!).parent = parent)) || (!((l.take 120).any (fun x => decide (x = (accepted_f m parent (l.take 120))[k]!))))) || (!(allowed_f m ((accepted_f m parent (l.take 120))[k]!) (accepted_f m parent (l.take 120)))))) (.bool (decide (0 < ((k : Nat) : Int))))) := hd41 29 rfl
        exact D.guardv (wanted_vif rfl rfl d41_29) (fun hg => (op_move rfl d41_s7))
      · intro f42 w42 hx42 ho42 hd42
        have d42_s8 : f42 8 = (.int .i64 ((k : Nat) : Int)) := (ho42 8 rfl).trans s8_8
        have d42_29 : f42 54 = (vif (!(((!decide (((accepted_f m parent (l.take 120))[k]!).parent = parent)) || (!((l.take 120).any (fun x => decide (x = (accepted_f m parent (l.take 120))[k]!))))) || (!(allowed_f m ((accepted_f m parent (l.take 120))[k]!) (accepted_f m parent (l.take 120)))))) (.bool (decide (0 < ((k : Nat) : Int))))) := hd42 29 rfl
        exact D.guardv (wanted_vif rfl rfl d42_29) (fun hg => (op_move rfl d42_s8))
      · intro f43 w43 hx43 ho43 hd43
        have d43_29 : f43 54 = (vif (!(((!decide (((accepted_f m parent (l.take 120))[k]!).parent = parent)) || (!((l.take 120).any (fun x => decide (x = (accepted_f m parent (l.take 120))[k]!))))) || (!(allowed_f m ((accepted_f m parent (l.take 120))[k]!) (accepted_f m parent (l.take 120)))))) (.bool (decide (0 < ((k : Nat) : Int))))) := hd43 29 rfl
        have d43_31 : f43 56 = (vif ((!(((!decide (((accepted_f m parent (l.take 120))[k]!).parent = parent)) || (!((l.take 120).any (fun x => decide (x = (accepted_f m parent (l.take 120))[k]!))))) || (!(allowed_f m ((accepted_f m parent (l.take 120))[k]!) (accepted_f m parent (l.take 120)))))) && ((decide (0 < ((k : Nat) : Int))) == true)) (.int .i64 ((k : Nat) : Int))) := hd43 31 rfl
        exact D.guardv (wanted_vif rfl rfl d43_29) (fun hg => by have hp := hg; simp only [Bool.and_eq_true, Bool.or_eq_true, Bool.not_eq_true', decide_eq_true_eq, decide_eq_false_iff_not, bne_iff_ne, beq_iff_eq] at hp; skip; exact (op_sub (c := ((k - 1 : Nat) : Int)) rfl ((show _ = vif _ (.int .i64 ((k : Nat) : Int)) from d43_31).trans (vif_t hg).symm) rfl (by omega) (by omega)))
      · intro f44 w44 hx44 ho44 hd44
        have d44_29 : f44 54 = (vif (!(((!decide (((accepted_f m parent (l.take 120))[k]!).parent = parent)) || (!((l.take 120).any (fun x => decide (x = (accepted_f m parent (l.take 120))[k]!))))) || (!(allowed_f m ((accepted_f m parent (l.take 120))[k]!) (accepted_f m parent (l.take 120)))))) (.bool (decide (0 < ((k : Nat) : Int))))) := hd44 29 rfl
        have d44_30 : f44 55 = (vif ((!(((!decide (((accepted_f m parent (l.take 120))[k]!).parent = parent)) || (!((l.take 120).any (fun x => decide (x = (accepted_f m parent (l.take 120))[k]!))))) || (!(allowed_f m ((accepted_f m parent (l.take 120))[k]!) (accepted_f m parent (l.take 120)))))) && ((decide (0 < ((k : Nat) : Int))) == true)) (.slice A6 (accepted_f m parent (l.take 120)).length c6)) := hd44 30 rfl
        have d44_32 : f44 57 = (vif ((!(((!decide (((accepted_f m parent (l.take 120))[k]!).parent = parent)) || (!((l.take 120).any (fun x => decide (x = (accepted_f m parent (l.take 120))[k]!))))) || (!(allowed_f m ((accepted_f m parent (l.take 120))[k]!) (accepted_f m parent (l.take 120)))))) && ((decide (0 < ((k : Nat) : Int))) == true)) (.int .i64 ((k - 1 : Nat) : Int))) := hd44 32 rfl
        have hR_l := hR_l.ext hx44
        have hB1 := hB1.ext hx44
        have hR3_2 := hR3_2.ext hx44
        have hR6 := hR6.ext hx44
        exact D.guardv (wanted_vif rfl rfl d44_29) (fun hg => by have hp := hg; simp only [Bool.and_eq_true, Bool.or_eq_true, Bool.not_eq_true', decide_eq_true_eq, decide_eq_false_iff_not, bne_iff_ne, beq_iff_eq] at hp; skip; exact (op_index (k := k - 1) rfl ((show _ = vif _ (.slice A6 (accepted_f m parent (l.take 120)).length c6) from d44_30).trans (vif_t hg).symm) ((show _ = vif _ (.int .i64 ((k - 1 : Nat) : Int)) from d44_32).trans (vif_t hg).symm) sl25 (hR6.getA (get_bang (l := accepted_f m parent (l.take 120)) (k := k - 1) (by omega))).1 rfl (by omega) rfl))
      · intro f45 w45 hx45 ho45 hd45
        have d45_29 : f45 54 = (vif (!(((!decide (((accepted_f m parent (l.take 120))[k]!).parent = parent)) || (!((l.take 120).any (fun x => decide (x = (accepted_f m parent (l.take 120))[k]!))))) || (!(allowed_f m ((accepted_f m parent (l.take 120))[k]!) (accepted_f m parent (l.take 120)))))) (.bool (decide (0 < ((k : Nat) : Int))))) := hd45 29 rfl
        have d45_33 : f45 58 = (vif ((!(((!decide (((accepted_f m parent (l.take 120))[k]!).parent = parent)) || (!((l.take 120).any (fun x => decide (x = (accepted_f m parent (l.take 120))[k]!))))) || (!(allowed_f m ((accepted_f m parent (l.take 120))[k]!) (accepted_f m parent (l.take 120)))))) && ((decide (0 < ((k : Nat) : Int))) == true)) (.pointer (some ((adr A6).add ((k - 1) * 22))))) := hd45 33 rfl
        have hR_l := hR_l.ext hx45
        have hB1 := hB1.ext hx45
        have hR3_2 := hR3_2.ext hx45
        have hR6 := hR6.ext hx45
        exact D.guardv (wanted_vif rfl rfl d45_29) (fun hg => by have hp := hg; simp only [Bool.and_eq_true, Bool.or_eq_true, Bool.not_eq_true', decide_eq_true_eq, decide_eq_false_iff_not, bne_iff_ne, beq_iff_eq] at hp; skip; exact (op_load (v := (accepted_f m parent (l.take 120))[k - 1]!) rfl ((show _ = vif _ (.pointer (some ((adr A6).add ((k - 1) * 22)))) from d45_33).trans (vif_t hg).symm) ty28 (hR6.getA (get_bang (l := accepted_f m parent (l.take 120)) (k := k - 1) (by omega))).2))
      · intro f46 w46 hx46 ho46 hd46
        have d46_s7 : f46 7 = (.slice A6 (accepted_f m parent (l.take 120)).length c6) := (ho46 7 rfl).trans s8_7
        have d46_29 : f46 54 = (vif (!(((!decide (((accepted_f m parent (l.take 120))[k]!).parent = parent)) || (!((l.take 120).any (fun x => decide (x = (accepted_f m parent (l.take 120))[k]!))))) || (!(allowed_f m ((accepted_f m parent (l.take 120))[k]!) (accepted_f m parent (l.take 120)))))) (.bool (decide (0 < ((k : Nat) : Int))))) := hd46 29 rfl
        exact D.guardv (wanted_vif rfl rfl d46_29) (fun hg => (op_move rfl d46_s7))
      · intro f47 w47 hx47 ho47 hd47
        have d47_s8 : f47 8 = (.int .i64 ((k : Nat) : Int)) := (ho47 8 rfl).trans s8_8
        have d47_29 : f47 54 = (vif (!(((!decide (((accepted_f m parent (l.take 120))[k]!).parent = parent)) || (!((l.take 120).any (fun x => decide (x = (accepted_f m parent (l.take 120))[k]!))))) || (!(allowed_f m ((accepted_f m parent (l.take 120))[k]!) (accepted_f m parent (l.take 120)))))) (.bool (decide (0 < ((k : Nat) : Int))))) := hd47 29 rfl
        exact D.guardv (wanted_vif rfl rfl d47_29) (fun hg => (op_move rfl d47_s8))
      · intro f48 w48 hx48 ho48 hd48
        have d48_29 : f48 54 = (vif (!(((!decide (((accepted_f m parent (l.take 120))[k]!).parent = parent)) || (!((l.take 120).any (fun x => decide (x = (accepted_f m parent (l.take 120))[k]!))))) || (!(allowed_f m ((accepted_f m parent (l.take 120))[k]!) (accepted_f m parent (l.take 120)))))) (.bool (decide (0 < ((k : Nat) : Int))))) := hd48 29 rfl
        have d48_35 : f48 60 = (vif ((!(((!decide (((accepted_f m parent (l.take 120))[k]!).parent = parent)) || (!((l.take 120).any (fun x => decide (x = (accepted_f m parent (l.take 120))[k]!))))) || (!(allowed_f m ((accepted_f m parent (l.take 120))[k]!) (accepted_f m parent (l.take 120)))))) && ((decide (0 < ((k : Nat) : Int))) == true)) (.slice A6 (accepted_f m parent (l.take 120)).length c6)) := hd48 35 rfl
        have d48_36 : f48 61 = (vif ((!(((!decide (((accepted_f m parent (l.take 120))[k]!).parent = parent)) || (!((l.take 120).any (fun x => decide (x = (accepted_f m parent (l.take 120))[k]!))))) || (!(allowed_f m ((accepted_f m parent (l.take 120))[k]!) (accepted_f m parent (l.take 120)))))) && ((decide (0 < ((k : Nat) : Int))) == true)) (.int .i64 ((k : Nat) : Int))) := hd48 36 rfl
        have hR_l := hR_l.ext hx48
        have hB1 := hB1.ext hx48
        have hR3_2 := hR3_2.ext hx48
        have hR6 := hR6.ext hx48
        exact D.guardv (wanted_vif rfl rfl d48_29) (fun hg => by have hp := hg; simp only [Bool.and_eq_true, Bool.or_eq_true, Bool.not_eq_true', decide_eq_true_eq, decide_eq_false_iff_not, bne_iff_ne, beq_iff_eq] at hp; skip; exact (op_index (k := k) rfl ((show _ = vif _ (.slice A6 (accepted_f m parent (l.take 120)).length c6) from d48_35).trans (vif_t hg).symm) ((show _ = vif _ (.int .i64 ((k : Nat) : Int)) from d48_36).trans (vif_t hg).symm) sl25 (hR6.getA (get_bang (l := accepted_f m parent (l.take 120)) (k := k) (by omega))).1 rfl (by omega) rfl))
      · intro f49 w49 hx49 ho49 hd49
        have d49_29 : f49 54 = (vif (!(((!decide (((accepted_f m parent (l.take 120))[k]!).parent = parent)) || (!((l.take 120).any (fun x => decide (x = (accepted_f m parent (l.take 120))[k]!))))) || (!(allowed_f m ((accepted_f m parent (l.take 120))[k]!) (accepted_f m parent (l.take 120)))))) (.bool (decide (0 < ((k : Nat) : Int))))) := hd49 29 rfl
        have d49_37 : f49 62 = (vif ((!(((!decide (((accepted_f m parent (l.take 120))[k]!).parent = parent)) || (!((l.take 120).any (fun x => decide (x = (accepted_f m parent (l.take 120))[k]!))))) || (!(allowed_f m ((accepted_f m parent (l.take 120))[k]!) (accepted_f m parent (l.take 120)))))) && ((decide (0 < ((k : Nat) : Int))) == true)) (.pointer (some ((adr A6).add (k * 22))))) := hd49 37 rfl
        have hR_l := hR_l.ext hx49
        have hB1 := hB1.ext hx49
        have hR3_2 := hR3_2.ext hx49
        have hR6 := hR6.ext hx49
        exact D.guardv (wanted_vif rfl rfl d49_29) (fun hg => by have hp := hg; simp only [Bool.and_eq_true, Bool.or_eq_true, Bool.not_eq_true', decide_eq_true_eq, decide_eq_false_iff_not, bne_iff_ne, beq_iff_eq] at hp; skip; exact (op_load (v := (accepted_f m parent (l.take 120))[k]!) rfl ((show _ = vif _ (.pointer (some ((adr A6).add (k * 22)))) from d49_37).trans (vif_t hg).symm) ty28 (hR6.getA (get_bang (l := accepted_f m parent (l.take 120)) (k := k) (by omega))).2))
      · intro f50 w50 hx50 ho50 hd50
        have d50_29 : f50 54 = (vif (!(((!decide (((accepted_f m parent (l.take 120))[k]!).parent = parent)) || (!((l.take 120).any (fun x => decide (x = (accepted_f m parent (l.take 120))[k]!))))) || (!(allowed_f m ((accepted_f m parent (l.take 120))[k]!) (accepted_f m parent (l.take 120)))))) (.bool (decide (0 < ((k : Nat) : Int))))) := hd50 29 rfl
        have d50_34 : f50 59 = (vif ((!(((!decide (((accepted_f m parent (l.take 120))[k]!).parent = parent)) || (!((l.take 120).any (fun x => decide (x = (accepted_f m parent (l.take 120))[k]!))))) || (!(allowed_f m ((accepted_f m parent (l.take 120))[k]!) (accepted_f m parent (l.take 120)))))) && ((decide (0 < ((k : Nat) : Int))) == true)) (Enc.val ((accepted_f m parent (l.take 120))[k - 1]!))) := hd50 34 rfl
        have d50_38 : f50 63 = (vif ((!(((!decide (((accepted_f m parent (l.take 120))[k]!).parent = parent)) || (!((l.take 120).any (fun x => decide (x = (accepted_f m parent (l.take 120))[k]!))))) || (!(allowed_f m ((accepted_f m parent (l.take 120))[k]!) (accepted_f m parent (l.take 120)))))) && ((decide (0 < ((k : Nat) : Int))) == true)) (Enc.val ((accepted_f m parent (l.take 120))[k]!))) := hd50 38 rfl
        have hR_l := hR_l.ext hx50
        have hB1 := hB1.ext hx50
        have hR3_2 := hR3_2.ext hx50
        have hR6 := hR6.ext hx50
        exact D.guardc (wanted_vif rfl rfl d50_29) (fun hg => (OpS.call (op_call rfl (argsC ((show _ = vif _ (Enc.val ((accepted_f m parent (l.take 120))[k - 1]!)) from d50_34).trans (vif_t hg).symm) (argsC ((show _ = vif _ (Enc.val ((accepted_f m parent (l.take 120))[k]!)) from d50_38).trans (vif_t hg).symm) argsN)) Try.func21 rfl rfl) voteLess_ok))
      · intro f51 w51 hx51 ho51 hd51
        have d51_29 : f51 54 = (vif (!(((!decide (((accepted_f m parent (l.take 120))[k]!).parent = parent)) || (!((l.take 120).any (fun x => decide (x = (accepted_f m parent (l.take 120))[k]!))))) || (!(allowed_f m ((accepted_f m parent (l.take 120))[k]!) (accepted_f m parent (l.take 120)))))) (.bool (decide (0 < ((k : Nat) : Int))))) := hd51 29 rfl
        have d51_39 : f51 64 = (vif ((!(((!decide (((accepted_f m parent (l.take 120))[k]!).parent = parent)) || (!((l.take 120).any (fun x => decide (x = (accepted_f m parent (l.take 120))[k]!))))) || (!(allowed_f m ((accepted_f m parent (l.take 120))[k]!) (accepted_f m parent (l.take 120)))))) && ((decide (0 < ((k : Nat) : Int))) == true)) (.bool (voteLess_f ((accepted_f m parent (l.take 120))[k - 1]!) ((accepted_f m parent (l.take 120))[k]!)))) := hd51 39 rfl
        exact D.guardv (wanted_vif rfl rfl d51_29) (fun hg => (op_not rfl ((show _ = vif _ (.bool (voteLess_f ((accepted_f m parent (l.take 120))[k - 1]!) ((accepted_f m parent (l.take 120))[k]!))) from d51_39).trans (vif_t hg).symm)))
      · intro f52 w52 hx52 ho52 hd52
        have d52_26 : f52 51 = (.bool (((!decide (((accepted_f m parent (l.take 120))[k]!).parent = parent)) || (!((l.take 120).any (fun x => decide (x = (accepted_f m parent (l.take 120))[k]!))))) || (!(allowed_f m ((accepted_f m parent (l.take 120))[k]!) (accepted_f m parent (l.take 120)))))) := hd52 26 rfl
        have d52_29 : f52 54 = (vif (!(((!decide (((accepted_f m parent (l.take 120))[k]!).parent = parent)) || (!((l.take 120).any (fun x => decide (x = (accepted_f m parent (l.take 120))[k]!))))) || (!(allowed_f m ((accepted_f m parent (l.take 120))[k]!) (accepted_f m parent (l.take 120)))))) (.bool (decide (0 < ((k : Nat) : Int))))) := hd52 29 rfl
        have d52_40 : f52 65 = (vif ((!(((!decide (((accepted_f m parent (l.take 120))[k]!).parent = parent)) || (!((l.take 120).any (fun x => decide (x = (accepted_f m parent (l.take 120))[k]!))))) || (!(allowed_f m ((accepted_f m parent (l.take 120))[k]!) (accepted_f m parent (l.take 120)))))) && ((decide (0 < ((k : Nat) : Int))) == true)) (.bool (!(voteLess_f ((accepted_f m parent (l.take 120))[k - 1]!) ((accepted_f m parent (l.take 120))[k]!))))) := hd52 40 rfl
        exact D.guardv (wanted_no rfl rfl d52_26) (fun hg => (op_and rfl ((show _ = vif _ (.bool (decide (0 < ((k : Nat) : Int)))) from d52_29).trans (vif_t hg).symm) ((show _ = vif _ _ from d52_40).trans (vif_and hg)) rfl))
      · intro f53 w53 hx53 ho53 hd53
        have d53_26 : f53 51 = (.bool (((!decide (((accepted_f m parent (l.take 120))[k]!).parent = parent)) || (!((l.take 120).any (fun x => decide (x = (accepted_f m parent (l.take 120))[k]!))))) || (!(allowed_f m ((accepted_f m parent (l.take 120))[k]!) (accepted_f m parent (l.take 120)))))) := hd53 26 rfl
        have d53_41 : f53 66 = (vif (!(((!decide (((accepted_f m parent (l.take 120))[k]!).parent = parent)) || (!((l.take 120).any (fun x => decide (x = (accepted_f m parent (l.take 120))[k]!))))) || (!(allowed_f m ((accepted_f m parent (l.take 120))[k]!) (accepted_f m parent (l.take 120)))))) (.bool ((decide (0 < ((k : Nat) : Int))) && (!(voteLess_f ((accepted_f m parent (l.take 120))[k - 1]!) ((accepted_f m parent (l.take 120))[k]!)))))) := hd53 41 rfl
        exact D.val rfl (op_or rfl d53_26 rfl d53_41)
      intro f54 w54 hx54 ho54 hr54
      have s0 : f54 0 = (.int .i64 m) := (ho54 0 rfl).trans s8_0
      have s2 : f54 2 = (.slice A3_2 (l.take 120).length c3_2) := (ho54 2 rfl).trans s8_2
      have s4 : f54 4 = (.pointer (some ⟨b1, 0, none⟩)) := (ho54 4 rfl).trans s8_4
      have s7 : f54 7 = (.slice A6 (accepted_f m parent (l.take 120)).length c6) := (ho54 7 rfl).trans s8_7
      have s8 : f54 8 = (.int .i64 ((k : Nat) : Int)) := (ho54 8 rfl).trans s8_8
      have s22 : f54 22 = (.bool (decide (((k : Nat) : Int) < ((accepted_f m parent (l.take 120)).length : Int)))) := ho54 22 rfl
      have s67 : f54 67 = (.bool ((((!decide (((accepted_f m parent (l.take 120))[k]!).parent = parent)) || (!((l.take 120).any (fun x => decide (x = (accepted_f m parent (l.take 120))[k]!))))) || (!(allowed_f m ((accepted_f m parent (l.take 120))[k]!) (accepted_f m parent (l.take 120))))) || ((decide (0 < ((k : Nat) : Int))) && (!(voteLess_f ((accepted_f m parent (l.take 120))[k - 1]!) ((accepted_f m parent (l.take 120))[k]!)))))) := hr54 42 (by decide)
      have hE := hE.trans hx54
      have hS2 := hS2.trans hx54
      have hS7 := hS7.trans hx54
      have hR_l := hR_l.ext hx54
      have hB1 := hB1.ext hx54
      have hR3_2 := hR3_2.ext hx54
      have hR6 := hR6.ext hx54
      refine thenF_nor ?_
      refine W.cond (t := (((!decide (((accepted_f m parent (l.take 120))[k]!).parent = parent)) || (!((l.take 120).any (fun x => decide (x = (accepted_f m parent (l.take 120))[k]!))))) || (!(allowed_f m ((accepted_f m parent (l.take 120))[k]!) (accepted_f m parent (l.take 120))))) || ((decide (0 < ((k : Nat) : Int))) && (!(voteLess_f ((accepted_f m parent (l.take 120))[k - 1]!) ((accepted_f m parent (l.take 120))[k]!))))) s67 (fun hc55 => ?_) (fun hc55 => ?_)
      · have hp55 := hc55
        simp only [Bool.and_eq_true, Bool.or_eq_true, Bool.and_eq_false_iff, Bool.or_eq_false_iff, Bool.not_eq_true', Bool.not_eq_false', decide_eq_true_eq, decide_eq_false_iff_not] at hp55
        exact absurd hc55 (by rw [closed1 m parent (l.take 120) k (by omega)]; simp)
      · have hp55 := hc55
        simp only [Bool.and_eq_true, Bool.or_eq_true, Bool.and_eq_false_iff, Bool.or_eq_false_iff, Bool.not_eq_true', Bool.not_eq_false', decide_eq_true_eq, decide_eq_false_iff_not] at hp55
        refine W.skip ?_
        refine blockF_nor ?_
        refine thenF_nor ?_
        refine W.region (by rfl) ?_
        refine L.val rfl (op_move rfl s8) ?_
        refine L.val rfl (op_add (c := ((k + 1 : Nat) : Int)) rfl rfl rfl (by omega) (by omega)) ?_
        refine L.val rfl (op_assign rfl rfl) ?_
        refine L.nil ?_
        refine thenF_nor ?_
        exact ⟨k + 1, ⟨(by (try dsimp only); omega), s0, s2, s4, s7, rfl, hS7⟩, (by (try dsimp only); omega)⟩
    · have hp9 := hc9
      simp only [Bool.and_eq_true, Bool.or_eq_true, Bool.and_eq_false_iff, Bool.or_eq_false_iff, Bool.not_eq_true', Bool.not_eq_false', decide_eq_true_eq, decide_eq_false_iff_not] at hp9
      refine W.exit ?_
      refine thenF_exit ?_
      refine thenF_exit ?_
      refine blockF_hit ?_
      refine thenF_nor ?_
      refine W.seq ?_
      refine W.seq ?_
      refine W.region (by rfl) ?_
      refine L.val rfl (op_assign rfl rfl) ?_
      refine L.nil ?_
      refine thenF_nor ?_
      refine W.block ?_
      have S56_hR_l := hR_l
      have S56_hB1 := hB1
      have S56_hR3_2 := hR3_2
      have S56_hR6 := hR6
      have S56_hE := hE
      have S56_hS2 := hS2
      have S56_hS7 := hS7
      have hS56 : Ext w8 w8 := Ext.refl _
      refine W.loopg (γ := Nat) (fun (j : Nat) (f : Fr) (ww : World) => j ≤ (l.take 120).length ∧ f 0 = (.int .i64 m) ∧ f 2 = (.slice A3_2 (l.take 120).length c3_2) ∧ f 4 = (.pointer (some ⟨b1, 0, none⟩)) ∧ f 7 = (.slice A6 (accepted_f m parent (l.take 120)).length c6) ∧ f 9 = (.int .i64 ((j : Nat) : Int)) ∧ Ext w8 ww) (fun (j : Nat) => (l.take 120).length - j) 0 ⟨(by (try dsimp only); omega), s8_0, s8_2, s8_4, s8_7, rfl, hS56⟩ ?_
      rintro j f57 w57 ⟨hj, s57_0, s57_2, s57_4, s57_7, s57_9, hS56⟩
      have hR_l := S56_hR_l.ext hS56
      have hB1 := S56_hB1.ext hS56
      have hR3_2 := S56_hR3_2.ext hS56
      have hR6 := S56_hR6.ext hS56
      have hE := S56_hE.trans hS56
      have hS2 := S56_hS2.trans hS56
      have hS7 := S56_hS7.trans hS56
      refine W.seq ?_
      refine W.seq ?_
      refine W.region (by rfl) ?_
      refine L.val rfl (op_move rfl s57_9) ?_
      refine L.val rfl (op_move rfl s57_2) ?_
      refine L.val rfl (op_len rfl rfl ln25) ?_
      refine L.val rfl (op_lss rfl rfl rfl) ?_
      refine L.nil ?_
      refine thenF_nor ?_
      refine W.cond (t := decide (((j : Nat) : Int) < ((l.take 120).length : Int))) rfl (fun hc58 => ?_) (fun hc58 => ?_)
      · have hp58 := hc58
        simp only [Bool.and_eq_true, Bool.or_eq_true, Bool.and_eq_false_iff, Bool.or_eq_false_iff, Bool.not_eq_true', Bool.not_eq_false', decide_eq_true_eq, decide_eq_false_iff_not] at hp58
        refine W.skip ?_
        refine thenF_nor ?_
        refine W.seq ?_
        refine W.block ?_
        refine W.seq ?_
        refine W.drawS [Sp.eq (.slice A3_2 (l.take 120).length c3_2), Sp.eq (.int .i64 ((j : Nat) : Int)), Sp.eq (.pointer (some ((adr A3_2).add (j * 22)))), Sp.eq (.pointer (some (((adr A3_2).add (j * 22)).add 6))), Sp.eq (Enc.val (((l.take 120)[j]!).parent)), Sp.eq (Enc.val (parent : Nm)), Sp.eq (.bool (decide (((l.take 120)[j]!).parent = parent))), Sp.eq (.bool (decide (((l.take 120)[j]!).parent = parent))), Sp.eq (vif (decide (((l.take 120)[j]!).parent = parent)) (.slice A6 (accepted_f m parent (l.take 120)).length c6)), Sp.eq (vif (decide (((l.take 120)[j]!).parent = parent)) (.slice A3_2 (l.take 120).length c3_2)), Sp.eq (vif (decide (((l.take 120)[j]!).parent = parent)) (.int .i64 ((j : Nat) : Int))), Sp.eq (vif (decide (((l.take 120)[j]!).parent = parent)) (.pointer (some ((adr A3_2).add (j * 22))))), Sp.eq (vif (decide (((l.take 120)[j]!).parent = parent)) (Enc.val ((l.take 120)[j]!))), Sp.eq (vif (decide (((l.take 120)[j]!).parent = parent)) (.bool ((accepted_f m parent (l.take 120)).any (fun x => decide (x = (l.take 120)[j]!))))), Sp.eq (vif (decide (((l.take 120)[j]!).parent = parent)) (.bool (!((accepted_f m parent (l.take 120)).any (fun x => decide (x = (l.take 120)[j]!)))))), Sp.eq (.bool ((decide (((l.take 120)[j]!).parent = parent)) && (!((accepted_f m parent (l.take 120)).any (fun x => decide (x = (l.take 120)[j]!)))))), Sp.eq (.bool ((decide (((l.take 120)[j]!).parent = parent)) && (!((accepted_f m parent (l.take 120)).any (fun x => decide (x = (l.take 120)[j]!)))))), Sp.eq (vif ((decide (((l.take 120)[j]!).parent = parent)) && (!((accepted_f m parent (l.take 120)).any (fun x => decide (x = (l.take 120)[j]!))))) (.int .i64 m)), Sp.eq (vif ((decide (((l.take 120)[j]!).parent = parent)) && (!((accepted_f m parent (l.take 120)).any (fun x => decide (x = (l.take 120)[j]!))))) (.slice A3_2 (l.take 120).length c3_2)), Sp.eq (vif ((decide (((l.take 120)[j]!).parent = parent)) && (!((accepted_f m parent (l.take 120)).any (fun x => decide (x = (l.take 120)[j]!))))) (.int .i64 ((j : Nat) : Int))), Sp.eq (vif ((decide (((l.take 120)[j]!).parent = parent)) && (!((accepted_f m parent (l.take 120)).any (fun x => decide (x = (l.take 120)[j]!))))) (.pointer (some ((adr A3_2).add (j * 22))))), Sp.eq (vif ((decide (((l.take 120)[j]!).parent = parent)) && (!((accepted_f m parent (l.take 120)).any (fun x => decide (x = (l.take 120)[j]!))))) (Enc.val ((l.take 120)[j]!))), Sp.eq (vif ((decide (((l.take 120)[j]!).parent = parent)) && (!((accepted_f m parent (l.take 120)).any (fun x => decide (x = (l.take 120)[j]!))))) (.slice A6 (accepted_f m parent (l.take 120)).length c6)), Sp.eq (vif ((decide (((l.take 120)[j]!).parent = parent)) && (!((accepted_f m parent (l.take 120)).any (fun x => decide (x = (l.take 120)[j]!))))) (.bool (allowed_f m ((l.take 120)[j]!) (accepted_f m parent (l.take 120))))), Sp.eq (.bool (((decide (((l.take 120)[j]!).parent = parent)) && (!((accepted_f m parent (l.take 120)).any (fun x => decide (x = (l.take 120)[j]!))))) && (allowed_f m ((l.take 120)[j]!) (accepted_f m parent (l.take 120)))))] mixed (by rfl) (Obls.cons ?_ (Obls.cons ?_ (Obls.cons ?_ (Obls.cons ?_ (Obls.cons ?_ (Obls.cons ?_ (Obls.cons ?_ (Obls.cons ?_ (Obls.cons ?_ (Obls.cons ?_ (Obls.cons ?_ (Obls.cons ?_ (Obls.cons ?_ (Obls.cons ?_ (Obls.cons ?_ (Obls.cons ?_ (Obls.cons ?_ (Obls.cons ?_ (Obls.cons ?_ (Obls.cons ?_ (Obls.cons ?_ (Obls.cons ?_ (Obls.cons ?_ (Obls.cons ?_ (Obls.cons ?_ Obls.nil))))))))))))))))))))))))) ?_
        · intro f60 w60 hx60 ho60 hd60
          have d60_s2 : f60 2 = (.slice A3_2 (l.take 120).length c3_2) := (ho60 2 rfl).trans s57_2
          exact D.val rfl (op_move rfl d60_s2)
        · intro f61 w61 hx61 ho61 hd61
          have d61_s9 : f61 9 = (.int .i64 ((j : Nat) : Int)) := (ho61 9 rfl).trans s57_9
          exact D.val rfl (op_move rfl d61_s9)
        · intro f62 w62 hx62 ho62 hd62
          have d62_0 : f62 74 = (.slice A3_2 (l.take 120).length c3_2) := hd62 0 rfl
          have d62_1 : f62 75 = (.int .i64 ((j : Nat) : Int)) := hd62 1 rfl
          have hR_l := hR_l.ext hx62
          have hB1 := hB1.ext hx62
          have hR3_2 := hR3_2.ext hx62
          have hR6 := hR6.ext hx62
          skip
          exact D.val rfl (op_index (k := j) rfl d62_0 d62_1 sl25 (hR3_2.getA (get_bang (l := (l.take 120)) (k := j) (by omega))).1 rfl (by omega) rfl)
        · intro f63 w63 hx63 ho63 hd63
          have d63_2 : f63 76 = (.pointer (some ((adr A3_2).add (j * 22)))) := hd63 2 rfl
          exact D.val rfl (op_field rfl d63_2 fo28_6 rfl)
        · intro f64 w64 hx64 ho64 hd64
          have d64_3 : f64 77 = (.pointer (some (((adr A3_2).add (j * 22)).add 6))) := hd64 3 rfl
          have hR_l := hR_l.ext hx64
          have hB1 := hB1.ext hx64
          have hR3_2 := hR3_2.ext hx64
          have hR6 := hR6.ext hx64
          skip
          exact D.val rfl (op_load (v := (((l.take 120)[j]!).parent : Nm)) rfl d64_3 ty24 (sub_nm 6 (hR3_2.getA (get_bang (l := (l.take 120)) (k := j) (by omega))).2 rfl))
        · intro f65 w65 hx65 ho65 hd65
          have d65_s4 : f65 4 = (.pointer (some ⟨b1, 0, none⟩)) := (ho65 4 rfl).trans s57_4
          have hR_l := hR_l.ext hx65
          have hB1 := hB1.ext hx65
          have hR3_2 := hR3_2.ext hx65
          have hR6 := hR6.ext hx65
          exact D.val rfl (op_load (v := (parent : Nm)) rfl d65_s4 ty24 hB1.cells)
        · intro f66 w66 hx66 ho66 hd66
          have d66_4 : f66 78 = (Enc.val (((l.take 120)[j]!).parent)) := hd66 4 rfl
          have d66_5 : f66 79 = (Enc.val (parent : Nm)) := hd66 5 rfl
          exact D.val rfl (op_eqle (a := (((l.take 120)[j]!).parent : Nm)) (b := (parent : Nm)) rfl d66_4 d66_5 eq24 (fun _ => ⟨_, rfl⟩) Try.eqGuardType24)
        · intro f67 w67 hx67 ho67 hd67
          have d67_6 : f67 80 = (.bool (decide (((l.take 120)[j]!).parent = parent))) := hd67 6 rfl
          exact D.val rfl (op_move rfl d67_6)
        · intro f68 w68 hx68 ho68 hd68
          have d68_s7 : f68 7 = (.slice A6 (accepted_f m parent (l.take 120)).length c6) := (ho68 7 rfl).trans s57_7
          have d68_7 : f68 81 = (.bool (decide (((l.take 120)[j]!).parent = parent))) := hd68 7 rfl
          exact D.guardv (wanted_yes rfl rfl d68_7) (fun hg => (op_move rfl d68_s7))
        · intro f69 w69 hx69 ho69 hd69
          have d69_s2 : f69 2 = (.slice A3_2 (l.take 120).length c3_2) := (ho69 2 rfl).trans s57_2
          have d69_7 : f69 81 = (.bool (decide (((l.take 120)[j]!).parent = parent))) := hd69 7 rfl
          exact D.guardv (wanted_yes rfl rfl d69_7) (fun hg => (op_move rfl d69_s2))
        · intro f70 w70 hx70 ho70 hd70
          have d70_s9 : f70 9 = (.int .i64 ((j : Nat) : Int)) := (ho70 9 rfl).trans s57_9
          have d70_7 : f70 81 = (.bool (decide (((l.take 120)[j]!).parent = parent))) := hd70 7 rfl
          exact D.guardv (wanted_yes rfl rfl d70_7) (fun hg => (op_move rfl d70_s9))
        · intro f71 w71 hx71 ho71 hd71
          have d71_7 : f71 81 = (.bool (decide (((l.take 120)[j]!).parent = parent))) := hd71 7 rfl
          have d71_9 : f71 83 = (vif (decide (((l.take 120)[j]!).parent = parent)) (.slice A3_2 (l.take 120).length c3_2)) := hd71 9 rfl
          have d71_10 : f71 84 = (vif (decide (((l.take 120)[j]!).parent = parent)) (.int .i64 ((j : Nat) : Int))) := hd71 10 rfl
          have hR_l := hR_l.ext hx71
          have hB1 := hB1.ext hx71
          have hR3_2 := hR3_2.ext hx71
          have hR6 := hR6.ext hx71
          exact D.guardv (wanted_yes rfl rfl d71_7) (fun hg => by have hp := hg; simp only [Bool.and_eq_true, Bool.or_eq_true, Bool.not_eq_true', decide_eq_true_eq, decide_eq_false_iff_not, bne_iff_ne, beq_iff_eq] at hp; skip; exact (op_index (k := j) rfl ((show _ = vif _ (.slice A3_2 (l.take 120).length c3_2) from d71_9).trans (vif_t hg).symm) ((show _ = vif _ (.int .i64 ((j : Nat) : Int)) from d71_10).trans (vif_t hg).symm) sl25 (hR3_2.getA (get_bang (l := (l.take 120)) (k := j) (by omega))).1 rfl (by omega) rfl))
        · intro f72 w72 hx72 ho72 hd72
          have d72_7 : f72 81 = (.bool (decide (((l.take 120)[j]!).parent = parent))) := hd72 7 rfl
          have d72_11 : f72 85 = (vif (decide (((l.take 120)[j]!).parent = parent)) (.pointer (some ((adr A3_2).add (j * 22))))) := hd72 11 rfl
          have hR_l := hR_l.ext hx72
          have hB1 := hB1.ext hx72
          have hR3_2 := hR3_2.ext hx72
          have hR6 := hR6.ext hx72
          exact D.guardv (wanted_yes rfl rfl d72_7) (fun hg => by have hp := hg; simp only [Bool.and_eq_true, Bool.or_eq_true, Bool.not_eq_true', decide_eq_true_eq, decide_eq_false_iff_not, bne_iff_ne, beq_iff_eq] at hp; skip; exact (op_load (v := (l.take 120)[j]!) rfl ((show _ = vif _ (.pointer (some ((adr A3_2).add (j * 22)))) from d72_11).trans (vif_t hg).symm) ty28 (hR3_2.getA (get_bang (l := (l.take 120)) (k := j) (by omega))).2))
        · intro f73 w73 hx73 ho73 hd73
          have d73_7 : f73 81 = (.bool (decide (((l.take 120)[j]!).parent = parent))) := hd73 7 rfl
          have d73_8 : f73 82 = (vif (decide (((l.take 120)[j]!).parent = parent)) (.slice A6 (accepted_f m parent (l.take 120)).length c6)) := hd73 8 rfl
          have d73_12 : f73 86 = (vif (decide (((l.take 120)[j]!).parent = parent)) (Enc.val ((l.take 120)[j]!))) := hd73 12 rfl
          have hR_l := hR_l.ext hx73
          have hB1 := hB1.ext hx73
          have hR3_2 := hR3_2.ext hx73
          have hR6 := hR6.ext hx73
          exact D.guardc (wanted_yes rfl rfl d73_7) (fun hg => (OpS.call (op_call rfl (argsC ((show _ = vif _ (.slice A6 (accepted_f m parent (l.take 120)).length c6) from d73_8).trans (vif_t hg).symm) (argsC ((show _ = vif _ (Enc.val ((l.take 120)[j]!)) from d73_12).trans (vif_t hg).symm) argsN)) Try.func19 rfl rfl) (has12_ok hR6)))
        · intro f74 w74 hx74 ho74 hd74
          have d74_7 : f74 81 = (.bool (decide (((l.take 120)[j]!).parent = parent))) := hd74 7 rfl
          have d74_13 : f74 87 = (vif (decide (((l.take 120)[j]!).parent = parent)) (.bool ((accepted_f m parent (l.take 120)).any (fun x => decide (x = (l.take 120)[j]!))))) := hd74 13 rfl
          exact D.guardv (wanted_yes rfl rfl d74_7) (fun hg => (op_not rfl ((show _ = vif _ (.bool ((accepted_f m parent (l.take 120)).any (fun x => decide (x = (l.take 120)[j]!)))) from d74_13).trans (vif_t hg).symm)))
        · intro f75 w75 hx75 ho75 hd75
          have d75_7 : f75 81 = (.bool (decide (((l.take 120)[j]!).parent = parent))) := hd75 7 rfl
          have d75_14 : f75 88 = (vif (decide (((l.take 120)[j]!).parent = parent)) (.bool (!((accepted_f m parent (l.take 120)).any (fun x => decide (x = (l.take 120)[j]!)))))) := hd75 14 rfl
          exact D.val rfl (op_and rfl d75_7 d75_14 rfl)
        · intro f76 w76 hx76 ho76 hd76
          have d76_15 : f76 89 = (.bool ((decide (((l.take 120)[j]!).parent = parent)) && (!((accepted_f m parent (l.take 120)).any (fun x => decide (x = (l.take 120)[j]!)))))) := hd76 15 rfl
          exact D.val rfl (op_move rfl d76_15)
        · intro f77 w77 hx77 ho77 hd77
          have d77_s0 : f77 0 = (.int .i64 m) := (ho77 0 rfl).trans s57_0
          have d77_16 : f77 90 = (.bool ((decide (((l.take 120)[j]!).parent = parent)) && (!((accepted_f m parent (l.take 120)).any (fun x => decide (x = (l.take 120)[j]!)))))) := hd77 16 rfl
          exact D.guardv (wanted_yes rfl rfl d77_16) (fun hg => (op_move rfl d77_s0))
        · intro f78 w78 hx78 ho78 hd78
          have d78_s2 : f78 2 = (.slice A3_2 (l.take 120).length c3_2) := (ho78 2 rfl).trans s57_2
          have d78_16 : f78 90 = (.bool ((decide (((l.take 120)[j]!).parent = parent)) && (!((accepted_f m parent (l.take 120)).any (fun x => decide (x = (l.take 120)[j]!)))))) := hd78 16 rfl
          exact D.guardv (wanted_yes rfl rfl d78_16) (fun hg => (op_move rfl d78_s2))
        · intro f79 w79 hx79 ho79 hd79
          have d79_s9 : f79 9 = (.int .i64 ((j : Nat) : Int)) := (ho79 9 rfl).trans s57_9
          have d79_16 : f79 90 = (.bool ((decide (((l.take 120)[j]!).parent = parent)) && (!((accepted_f m parent (l.take 120)).any (fun x => decide (x = (l.take 120)[j]!)))))) := hd79 16 rfl
          exact D.guardv (wanted_yes rfl rfl d79_16) (fun hg => (op_move rfl d79_s9))
        · intro f80 w80 hx80 ho80 hd80
          have d80_16 : f80 90 = (.bool ((decide (((l.take 120)[j]!).parent = parent)) && (!((accepted_f m parent (l.take 120)).any (fun x => decide (x = (l.take 120)[j]!)))))) := hd80 16 rfl
          have d80_18 : f80 92 = (vif ((decide (((l.take 120)[j]!).parent = parent)) && (!((accepted_f m parent (l.take 120)).any (fun x => decide (x = (l.take 120)[j]!))))) (.slice A3_2 (l.take 120).length c3_2)) := hd80 18 rfl
          have d80_19 : f80 93 = (vif ((decide (((l.take 120)[j]!).parent = parent)) && (!((accepted_f m parent (l.take 120)).any (fun x => decide (x = (l.take 120)[j]!))))) (.int .i64 ((j : Nat) : Int))) := hd80 19 rfl
          have hR_l := hR_l.ext hx80
          have hB1 := hB1.ext hx80
          have hR3_2 := hR3_2.ext hx80
          have hR6 := hR6.ext hx80
          exact D.guardv (wanted_yes rfl rfl d80_16) (fun hg => by have hp := hg; simp only [Bool.and_eq_true, Bool.or_eq_true, Bool.not_eq_true', decide_eq_true_eq, decide_eq_false_iff_not, bne_iff_ne, beq_iff_eq] at hp; skip; exact (op_index (k := j) rfl ((show _ = vif _ (.slice A3_2 (l.take 120).length c3_2) from d80_18).trans (vif_t hg).symm) ((show _ = vif _ (.int .i64 ((j : Nat) : Int)) from d80_19).trans (vif_t hg).symm) sl25 (hR3_2.getA (get_bang (l := (l.take 120)) (k := j) (by omega))).1 rfl (by omega) rfl))
        · intro f81 w81 hx81 ho81 hd81
          have d81_16 : f81 90 = (.bool ((decide (((l.take 120)[j]!).parent = parent)) && (!((accepted_f m parent (l.take 120)).any (fun x => decide (x = (l.take 120)[j]!)))))) := hd81 16 rfl
          have d81_20 : f81 94 = (vif ((decide (((l.take 120)[j]!).parent = parent)) && (!((accepted_f m parent (l.take 120)).any (fun x => decide (x = (l.take 120)[j]!))))) (.pointer (some ((adr A3_2).add (j * 22))))) := hd81 20 rfl
          have hR_l := hR_l.ext hx81
          have hB1 := hB1.ext hx81
          have hR3_2 := hR3_2.ext hx81
          have hR6 := hR6.ext hx81
          exact D.guardv (wanted_yes rfl rfl d81_16) (fun hg => by have hp := hg; simp only [Bool.and_eq_true, Bool.or_eq_true, Bool.not_eq_true', decide_eq_true_eq, decide_eq_false_iff_not, bne_iff_ne, beq_iff_eq] at hp; skip; exact (op_load (v := (l.take 120)[j]!) rfl ((show _ = vif _ (.pointer (some ((adr A3_2).add (j * 22)))) from d81_20).trans (vif_t hg).symm) ty28 (hR3_2.getA (get_bang (l := (l.take 120)) (k := j) (by omega))).2))
        · intro f82 w82 hx82 ho82 hd82
          have d82_s7 : f82 7 = (.slice A6 (accepted_f m parent (l.take 120)).length c6) := (ho82 7 rfl).trans s57_7
          have d82_16 : f82 90 = (.bool ((decide (((l.take 120)[j]!).parent = parent)) && (!((accepted_f m parent (l.take 120)).any (fun x => decide (x = (l.take 120)[j]!)))))) := hd82 16 rfl
          exact D.guardv (wanted_yes rfl rfl d82_16) (fun hg => (op_move rfl d82_s7))
        · intro f83 w83 hx83 ho83 hd83
          have d83_16 : f83 90 = (.bool ((decide (((l.take 120)[j]!).parent = parent)) && (!((accepted_f m parent (l.take 120)).any (fun x => decide (x = (l.take 120)[j]!)))))) := hd83 16 rfl
          have d83_17 : f83 91 = (vif ((decide (((l.take 120)[j]!).parent = parent)) && (!((accepted_f m parent (l.take 120)).any (fun x => decide (x = (l.take 120)[j]!))))) (.int .i64 m)) := hd83 17 rfl
          have d83_21 : f83 95 = (vif ((decide (((l.take 120)[j]!).parent = parent)) && (!((accepted_f m parent (l.take 120)).any (fun x => decide (x = (l.take 120)[j]!))))) (Enc.val ((l.take 120)[j]!))) := hd83 21 rfl
          have d83_22 : f83 96 = (vif ((decide (((l.take 120)[j]!).parent = parent)) && (!((accepted_f m parent (l.take 120)).any (fun x => decide (x = (l.take 120)[j]!))))) (.slice A6 (accepted_f m parent (l.take 120)).length c6)) := hd83 22 rfl
          have hR_l := hR_l.ext hx83
          have hB1 := hB1.ext hx83
          have hR3_2 := hR3_2.ext hx83
          have hR6 := hR6.ext hx83
          exact D.guardc (wanted_yes rfl rfl d83_16) (fun hg => by have hp := hg; simp only [Bool.and_eq_true, Bool.or_eq_true, Bool.not_eq_true', decide_eq_true_eq, decide_eq_false_iff_not, bne_iff_ne, beq_iff_eq] at hp; exact (OpS.call (op_call rfl (argsC ((show _ = vif _ (.int .i64 m) from d83_17).trans (vif_t hg).symm) (argsC ((show _ = vif _ (Enc.val ((l.take 120)[j]!)) from d83_21).trans (vif_t hg).symm) (argsC ((show _ = vif _ (.slice A6 (accepted_f m parent (l.take 120)).length c6) from d83_22).trans (vif_t hg).symm) argsN))) Try.func20 rfl rfl) (Allowed_ok hR6 (by first | omega | (simp only [List.length_drop, List.length_take, List.length_append, List.length_cons, List.length_nil] at *; omega)))))
        · intro f84 w84 hx84 ho84 hd84
          have d84_16 : f84 90 = (.bool ((decide (((l.take 120)[j]!).parent = parent)) && (!((accepted_f m parent (l.take 120)).any (fun x => decide (x = (l.take 120)[j]!)))))) := hd84 16 rfl
          have d84_23 : f84 97 = (vif ((decide (((l.take 120)[j]!).parent = parent)) && (!((accepted_f m parent (l.take 120)).any (fun x => decide (x = (l.take 120)[j]!))))) (.bool (allowed_f m ((l.take 120)[j]!) (accepted_f m parent (l.take 120))))) := hd84 23 rfl
          exact D.val rfl (op_and rfl d84_16 d84_23 rfl)
        intro f85 w85 hx85 ho85 hr85
        have s0 : f85 0 = (.int .i64 m) := (ho85 0 rfl).trans s57_0
        have s2 : f85 2 = (.slice A3_2 (l.take 120).length c3_2) := (ho85 2 rfl).trans s57_2
        have s4 : f85 4 = (.pointer (some ⟨b1, 0, none⟩)) := (ho85 4 rfl).trans s57_4
        have s7 : f85 7 = (.slice A6 (accepted_f m parent (l.take 120)).length c6) := (ho85 7 rfl).trans s57_7
        have s9 : f85 9 = (.int .i64 ((j : Nat) : Int)) := (ho85 9 rfl).trans s57_9
        have s71 : f85 71 = (.bool (decide (((j : Nat) : Int) < ((l.take 120).length : Int)))) := ho85 71 rfl
        have s98 : f85 98 = (.bool (((decide (((l.take 120)[j]!).parent = parent)) && (!((accepted_f m parent (l.take 120)).any (fun x => decide (x = (l.take 120)[j]!))))) && (allowed_f m ((l.take 120)[j]!) (accepted_f m parent (l.take 120))))) := hr85 24 (by decide)
        have hE := hE.trans hx85
        have hS2 := hS2.trans hx85
        have hS7 := hS7.trans hx85
        have hS56 := hS56.trans hx85
        have hR_l := hR_l.ext hx85
        have hB1 := hB1.ext hx85
        have hR3_2 := hR3_2.ext hx85
        have hR6 := hR6.ext hx85
        refine thenF_nor ?_
        refine W.cond (t := ((decide (((l.take 120)[j]!).parent = parent)) && (!((accepted_f m parent (l.take 120)).any (fun x => decide (x = (l.take 120)[j]!))))) && (allowed_f m ((l.take 120)[j]!) (accepted_f m parent (l.take 120)))) s98 (fun hc86 => ?_) (fun hc86 => ?_)
        · have hp86 := hc86
          simp only [Bool.and_eq_true, Bool.or_eq_true, Bool.and_eq_false_iff, Bool.or_eq_false_iff, Bool.not_eq_true', Bool.not_eq_false', decide_eq_true_eq, decide_eq_false_iff_not] at hp86
          exact absurd hc86 (by rw [closed2 m parent (l.take 120) j (by omega)]; simp)
        · have hp86 := hc86
          simp only [Bool.and_eq_true, Bool.or_eq_true, Bool.and_eq_false_iff, Bool.or_eq_false_iff, Bool.not_eq_true', Bool.not_eq_false', decide_eq_true_eq, decide_eq_false_iff_not] at hp86
          refine W.skip ?_
          refine blockF_nor ?_
          refine thenF_nor ?_
          refine W.region (by rfl) ?_
          refine L.val rfl (op_move rfl s9) ?_
          refine L.val rfl (op_add (c := ((j + 1 : Nat) : Int)) rfl rfl rfl (by omega) (by omega)) ?_
          refine L.val rfl (op_assign rfl rfl) ?_
          refine L.nil ?_
          refine thenF_nor ?_
          exact ⟨j + 1, ⟨(by (try dsimp only); omega), s0, s2, s4, s7, rfl, hS56⟩, (by (try dsimp only); omega)⟩
      · have hp58 := hc58
        simp only [Bool.and_eq_true, Bool.or_eq_true, Bool.and_eq_false_iff, Bool.or_eq_false_iff, Bool.not_eq_true', Bool.not_eq_false', decide_eq_true_eq, decide_eq_false_iff_not] at hp58
        refine W.exit ?_
        refine thenF_exit ?_
        refine thenF_exit ?_
        refine blockF_hit ?_
        refine thenF_nor ?_
        refine W.seq ?_
        refine W.region (by rfl) ?_
        refine L.val rfl (op_move rfl s57_0) ?_
        refine L.val rfl (op_load (v := (parent : Nm)) rfl s57_4 ty24 hB1.cells) ?_
        refine L.val rfl (op_move rfl s57_7) ?_
        refine L.step rfl (OpS.call (op_call rfl (argsC rfl (argsC rfl (argsC rfl argsN))) Try.func18 rfl rfl) (Accepted_ok hR6 (by first | omega | (simp only [List.length_drop, List.length_take, List.length_append, List.length_cons, List.length_nil] at *; omega)))) ?_
        rintro _ w87 ⟨⟨A87, c87, lo87, hi87, rfl, hcap87, hR87⟩, hx87⟩
        have hE := hE.trans hx87
        have hS2 := hS2.trans hx87
        have hS7 := hS7.trans hx87
        have hS56 := hS56.trans hx87
        have hR_l := hR_l.ext hx87
        have hB1 := hB1.ext hx87
        have hR3_2 := hR3_2.ext hx87
        have hR6 := hR6.ext hx87
        have hlen87 := hR87.len
        refine L.val rfl (op_move rfl s57_7) ?_
        refine L.call (v := (.bool (decide (accepted_f m parent (accepted_f m parent (l.take 120)) = accepted_f m parent (l.take 120))))) rfl (OpS.call (op_call rfl (argsC rfl (argsC rfl argsN)) Try.func22 rfl rfl) (same12_ok hR87 hR6)) ?_
        intro w88 hx88
        have hE := hE.trans hx88
        have hS2 := hS2.trans hx88
        have hS7 := hS7.trans hx88
        have hS56 := hS56.trans hx88
        have hR_l := hR_l.ext hx88
        have hB1 := hB1.ext hx88
        have hR3_2 := hR3_2.ext hx88
        have hR6 := hR6.ext hx88
        have hR87 := hR87.ext hx88
        refine L.val rfl (op_move rfl rfl) ?_
        refine L.guardc (v := (.bool true)) (wanted_yes rfl rfl rfl) (fun hg => (OpS.call (op_call rfl argsN Try.func23 rfl rfl) awake12_ok)) ?_
        intro w89 hx89
        have hE := hE.trans hx89
        have hS2 := hS2.trans hx89
        have hS7 := hS7.trans hx89
        have hS56 := hS56.trans hx89
        have hR_l := hR_l.ext hx89
        have hB1 := hB1.ext hx89
        have hR3_2 := hR3_2.ext hx89
        have hR6 := hR6.ext hx89
        have hR87 := hR87.ext hx89
        refine L.val rfl (op_and rfl rfl rfl rfl) ?_
        refine L.val rfl (op_assign rfl rfl) ?_
        refine L.nil ?_
        refine thenF_nor ?_
        refine W.ret ?_
        exact end_ret1 (v := (.bool ((decide (accepted_f m parent (accepted_f m parent (l.take 120)) = accepted_f m parent (l.take 120))) && true))) rfl rfl ⟨(by rw [closed3 m parent (l.take 120)]; rfl), hE⟩

end Go.Proofs.Ytdknjfmjddlphaa
