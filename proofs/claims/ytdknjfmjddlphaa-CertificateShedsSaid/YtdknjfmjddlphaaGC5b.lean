/-
  Contracts of functions of the program, each with its walk in the logic of frames. Printed by a program of this session (wip/gen) from the translation.
-/
import Derived.Test.YtdknjfmjddlphaaGC5
set_option linter.unusedSimpArgs false
set_option linter.unusedVariables false
namespace Go.Proofs.Ytdknjfmjddlphaa
open Go Go.Fk

set_option maxRecDepth 100000 in
theorem same13_ok {A_a : Option Addr} {c_a lo_a hi_a : Nat} {a : List Vt} {A_b : Option Addr} {c_b lo_b hi_b : Nat} {b : List Vt}  {w : World} (hR_a : Rd w lo_a hi_a A_a a) (hR_b : Rd w lo_b hi_b A_b b) : Gives Try.prog 49 #[(.slice A_a a.length c_a), (.slice A_b b.length c_b)] w fun u w' => u = (.bool (decide (a = b))) ∧ Ext w w' := by
  have hE : Ext w w := Ext.refl w
  have hlen_a := hR_a.len
  have hlen_b := hR_b.len
  refine gives_of_W Try.func49 rfl Try.ntmps49 rfl ?_
  refine W.seq ?_
  refine W.region (by rfl) ?_
  refine L.val (v := (.bool false)) rfl (op_assign rfl rfl) ?_
  refine L.nil ?_
  refine thenF_nor ?_
  refine W.seq ?_
  refine W.seq ?_
  refine W.region (by rfl) ?_
  refine L.val rfl (op_move rfl rfl) ?_
  refine L.val rfl (op_len rfl rfl ln25) ?_
  refine L.val rfl (op_move rfl rfl) ?_
  refine L.val rfl (op_len rfl rfl ln25) ?_
  refine L.val rfl (op_neq rfl rfl rfl) ?_
  refine L.nil ?_
  refine thenF_nor ?_
  refine W.cond (t := !decide ((a.length : Int) = (b.length : Int))) rfl (fun hc1 => ?_) (fun hc1 => ?_)
  · have hp1 := hc1
    simp only [Bool.and_eq_true, Bool.or_eq_true, Bool.and_eq_false_iff, Bool.or_eq_false_iff, Bool.not_eq_true', Bool.not_eq_false', decide_eq_true_eq, decide_eq_false_iff_not] at hp1
    have hres : decide (a = b) = false := decide_eq_false (fun e => by subst e; omega)
    refine W.seq ?_
    refine W.region (by rfl) ?_
    refine L.val (v := (.bool false)) rfl (op_assign rfl rfl) ?_
    refine L.nil ?_
    refine thenF_nor ?_
    refine W.ret ?_
    refine thenF_ret ?_
    exact end_ret1 (v := (.bool false)) rfl rfl ⟨(by rw [hres]), hE⟩
  · have hp1 := hc1
    simp only [Bool.and_eq_true, Bool.or_eq_true, Bool.and_eq_false_iff, Bool.or_eq_false_iff, Bool.not_eq_true', Bool.not_eq_false', decide_eq_true_eq, decide_eq_false_iff_not] at hp1
    have hll : a.length = b.length := by omega
    refine W.skip ?_
    refine thenF_nor ?_
    refine W.seq ?_
    refine W.seq ?_
    refine W.region (by rfl) ?_
    refine L.val rfl (op_assign rfl rfl) ?_
    refine L.nil ?_
    refine thenF_nor ?_
    refine W.block ?_
    have S2_hR_a := hR_a
    have S2_hR_b := hR_b
    have S2_hE := hE
    have hS2 : Ext w w := Ext.refl _
    refine W.loopg (γ := Nat) (fun (k : Nat) (f : Fr) (ww : World) => k ≤ a.length ∧ a.take k = b.take k ∧ f 0 = (.slice A_a a.length c_a) ∧ f 1 = (.slice A_b b.length c_b) ∧ f 5 = (.int .i64 ((k : Nat) : Int)) ∧ Ext w ww) (fun (k : Nat) => a.length - k) 0 ⟨(by (try dsimp only); omega), rfl, rfl, rfl, rfl, hS2⟩ ?_
    rintro k f3 w3 ⟨hk, hsm, s3_0, s3_1, s3_5, hS2⟩
    have hR_a := S2_hR_a.ext hS2
    have hR_b := S2_hR_b.ext hS2
    have hE := S2_hE.trans hS2
    refine W.seq ?_
    refine W.seq ?_
    refine W.region (by rfl) ?_
    refine L.val rfl (op_move rfl s3_5) ?_
    refine L.val rfl (op_move rfl s3_0) ?_
    refine L.val rfl (op_len rfl rfl ln25) ?_
    refine L.val rfl (op_lss rfl rfl rfl) ?_
    refine L.nil ?_
    refine thenF_nor ?_
    refine W.cond (t := decide (((k : Nat) : Int) < (a.length : Int))) rfl (fun hc4 => ?_) (fun hc4 => ?_)
    · have hp4 := hc4
      simp only [Bool.and_eq_true, Bool.or_eq_true, Bool.and_eq_false_iff, Bool.or_eq_false_iff, Bool.not_eq_true', Bool.not_eq_false', decide_eq_true_eq, decide_eq_false_iff_not] at hp4
      refine W.skip ?_
      refine thenF_nor ?_
      refine W.seq ?_
      refine W.block ?_
      refine W.seq ?_
      refine W.drawS [Sp.eq (.slice A_a a.length c_a), Sp.eq (.int .i64 ((k : Nat) : Int)), Sp.eq (.pointer (some ((adr A_a).add (k * 22)))), Sp.eq (Enc.val (a[k]! : Vt)), Sp.eq (.slice A_b b.length c_b), Sp.eq (.int .i64 ((k : Nat) : Int)), Sp.eq (.pointer (some ((adr A_b).add (k * 22)))), Sp.eq (Enc.val (b[k]! : Vt)), Sp.eq (.bool (!decide (a[k]! = b[k]!)))] mixed (by rfl) (Obls.cons ?_ (Obls.cons ?_ (Obls.cons ?_ (Obls.cons ?_ (Obls.cons ?_ (Obls.cons ?_ (Obls.cons ?_ (Obls.cons ?_ (Obls.cons ?_ Obls.nil))))))))) ?_
      · intro f6 w6 hx6 ho6 hd6
        have d6_s0 : f6 0 = (.slice A_a a.length c_a) := (ho6 0 rfl).trans s3_0
        exact D.val rfl (op_move rfl d6_s0)
      · intro f7 w7 hx7 ho7 hd7
        have d7_s5 : f7 5 = (.int .i64 ((k : Nat) : Int)) := (ho7 5 rfl).trans s3_5
        exact D.val rfl (op_move rfl d7_s5)
      · intro f8 w8 hx8 ho8 hd8
        have d8_0 : f8 17 = (.slice A_a a.length c_a) := hd8 0 rfl
        have d8_1 : f8 18 = (.int .i64 ((k : Nat) : Int)) := hd8 1 rfl
        have hR_a := hR_a.ext hx8
        have hR_b := hR_b.ext hx8
        skip
        exact D.val rfl (op_index (k := k) rfl d8_0 d8_1 sl25 (hR_a.getA (get_bang (l := a) (k := k) (by omega))).1 rfl (by omega) rfl)
      · intro f9 w9 hx9 ho9 hd9
        have d9_2 : f9 19 = (.pointer (some ((adr A_a).add (k * 22)))) := hd9 2 rfl
        have hR_a := hR_a.ext hx9
        have hR_b := hR_b.ext hx9
        skip
        exact D.val rfl (op_load (v := (a[k]! : Vt)) rfl d9_2 ty28 (hR_a.getA (get_bang (l := a) (k := k) (by omega))).2)
      · intro f10 w10 hx10 ho10 hd10
        have d10_s1 : f10 1 = (.slice A_b b.length c_b) := (ho10 1 rfl).trans s3_1
        exact D.val rfl (op_move rfl d10_s1)
      · intro f11 w11 hx11 ho11 hd11
        have d11_s5 : f11 5 = (.int .i64 ((k : Nat) : Int)) := (ho11 5 rfl).trans s3_5
        exact D.val rfl (op_move rfl d11_s5)
      · intro f12 w12 hx12 ho12 hd12
        have d12_4 : f12 21 = (.slice A_b b.length c_b) := hd12 4 rfl
        have d12_5 : f12 22 = (.int .i64 ((k : Nat) : Int)) := hd12 5 rfl
        have hR_a := hR_a.ext hx12
        have hR_b := hR_b.ext hx12
        skip
        exact D.val rfl (op_index (k := k) rfl d12_4 d12_5 sl25 (hR_b.getA (get_bang (l := b) (k := k) (by omega))).1 rfl (by omega) rfl)
      · intro f13 w13 hx13 ho13 hd13
        have d13_6 : f13 23 = (.pointer (some ((adr A_b).add (k * 22)))) := hd13 6 rfl
        have hR_a := hR_a.ext hx13
        have hR_b := hR_b.ext hx13
        skip
        exact D.val rfl (op_load (v := (b[k]! : Vt)) rfl d13_6 ty28 (hR_b.getA (get_bang (l := b) (k := k) (by omega))).2)
      · intro f14 w14 hx14 ho14 hd14
        have d14_3 : f14 20 = (Enc.val (a[k]! : Vt)) := hd14 3 rfl
        have d14_7 : f14 24 = (Enc.val (b[k]! : Vt)) := hd14 7 rfl
        exact D.val rfl (op_neqe (a := (a[k]! : Vt)) (b := (b[k]! : Vt)) rfl d14_3 d14_7 eq28 (fun _ => ⟨_, rfl⟩) Try.eqGuardType28)
      intro f15 w15 hx15 ho15 hr15
      have s0 : f15 0 = (.slice A_a a.length c_a) := (ho15 0 rfl).trans s3_0
      have s1 : f15 1 = (.slice A_b b.length c_b) := (ho15 1 rfl).trans s3_1
      have s5 : f15 5 = (.int .i64 ((k : Nat) : Int)) := (ho15 5 rfl).trans s3_5
      have s14 : f15 14 = (.bool (decide (((k : Nat) : Int) < (a.length : Int)))) := ho15 14 rfl
      have s25 : f15 25 = (.bool (!decide (a[k]! = b[k]!))) := hr15 8 (by decide)
      have hE := hE.trans hx15
      have hS2 := hS2.trans hx15
      have hR_a := hR_a.ext hx15
      have hR_b := hR_b.ext hx15
      refine thenF_nor ?_
      refine W.cond (t := !decide (a[k]! = b[k]!)) s25 (fun hc16 => ?_) (fun hc16 => ?_)
      · have hp16 := hc16
        simp only [Bool.and_eq_true, Bool.or_eq_true, Bool.and_eq_false_iff, Bool.or_eq_false_iff, Bool.not_eq_true', Bool.not_eq_false', decide_eq_true_eq, decide_eq_false_iff_not] at hp16
        have hne := hc16
        simp only [Bool.not_eq_true', decide_eq_false_iff_not] at hne
        have hres : decide (a = b) = false := decide_eq_false (fun e => hne (by rw [e]))
        refine W.seq ?_
        refine W.region (by rfl) ?_
        refine L.val (v := (.bool false)) rfl (op_assign rfl rfl) ?_
        refine L.nil ?_
        refine thenF_nor ?_
        refine W.ret ?_
        refine blockF_ret ?_
        refine thenF_ret ?_
        refine thenF_ret ?_
        refine blockF_ret ?_
        refine thenF_ret ?_
        exact end_ret1 (v := (.bool false)) rfl rfl ⟨(by rw [hres]), hE⟩
      · have hp16 := hc16
        simp only [Bool.and_eq_true, Bool.or_eq_true, Bool.and_eq_false_iff, Bool.or_eq_false_iff, Bool.not_eq_true', Bool.not_eq_false', decide_eq_true_eq, decide_eq_false_iff_not] at hp16
        have heq := hc16
        simp only [Bool.not_eq_false', decide_eq_true_eq] at heq
        refine W.skip ?_
        refine blockF_nor ?_
        refine thenF_nor ?_
        refine W.region (by rfl) ?_
        refine L.val rfl (op_move rfl s5) ?_
        refine L.val rfl (op_add (c := ((k + 1 : Nat) : Int)) rfl rfl rfl (by omega) (by omega)) ?_
        refine L.val rfl (op_assign rfl rfl) ?_
        refine L.nil ?_
        refine thenF_nor ?_
        exact ⟨k + 1, ⟨(by (try dsimp only); omega), (by rw [take_bang (by omega), take_bang (by omega), hsm, heq]), s0, s1, rfl, hS2⟩, (by (try dsimp only); omega)⟩
    · have hp4 := hc4
      simp only [Bool.and_eq_true, Bool.or_eq_true, Bool.and_eq_false_iff, Bool.or_eq_false_iff, Bool.not_eq_true', Bool.not_eq_false', decide_eq_true_eq, decide_eq_false_iff_not] at hp4
      have hres : decide (a = b) = true := decide_eq_true (by rw [← List.take_of_length_le (l := a) (i := k) (by omega), hsm, List.take_of_length_le (by omega)])
      refine W.exit ?_
      refine thenF_exit ?_
      refine thenF_exit ?_
      refine blockF_hit ?_
      refine thenF_nor ?_
      refine W.seq ?_
      refine W.region (by rfl) ?_
      refine L.val (v := (.bool true)) rfl (op_assign rfl rfl) ?_
      refine L.nil ?_
      refine thenF_nor ?_
      refine W.ret ?_
      exact end_ret1 (v := (.bool true)) rfl rfl ⟨(by rw [hres]), hE⟩

set_option maxRecDepth 100000 in
theorem has13_ok {A_l : Option Addr} {c_l lo_l hi_l : Nat} {l : List Vt} {v : Vt}  {w : World} (hR_l : Rd w lo_l hi_l A_l l) : Gives Try.prog 50 #[(.slice A_l l.length c_l), (Enc.val (v : Vt))] w fun u w' => u = (.bool (l.any (fun x => decide (x = v)))) ∧ Ext w w' := by
  have hE : Ext w w := Ext.refl w
  have hlen_l := hR_l.len
  refine gives_of_W Try.func50 rfl Try.ntmps50 rfl ?_
  refine W.seq ?_
  refine W.region (by rfl) ?_
  refine L.step rfl (op_box (cs := (Enc.cells (v : Vt))) rfl rfl rfl) ?_
  rintro _ w1 ⟨b1, rfl, hb1, hB1, hx1⟩
  have hE := hE.trans hx1
  have hR_l := hR_l.ext hx1
  refine L.val (v := (.bool false)) rfl (op_assign rfl rfl) ?_
  refine L.nil ?_
  refine thenF_nor ?_
  refine W.seq ?_
  refine W.seq ?_
  refine W.region (by rfl) ?_
  refine L.val rfl (op_assign rfl rfl) ?_
  refine L.nil ?_
  refine thenF_nor ?_
  refine W.block ?_
  have S2_hR_l := hR_l
  have S2_hB1 := hB1
  have S2_hE := hE
  have hS2 : Ext w1 w1 := Ext.refl _
  refine W.loopg (γ := Nat) (fun (k : Nat) (f : Fr) (ww : World) => k ≤ l.length ∧ (l.drop k).any (fun x => decide (x = v)) = l.any (fun x => decide (x = v)) ∧ f 0 = (.slice A_l l.length c_l) ∧ f 3 = (.pointer (some ⟨b1, 0, none⟩)) ∧ f 5 = (.int .i64 ((k : Nat) : Int)) ∧ Ext w1 ww) (fun (k : Nat) => l.length - k) 0 ⟨(by (try dsimp only); omega), rfl, rfl, rfl, rfl, hS2⟩ ?_
  rintro k f3 w3 ⟨hk, hany, s3_0, s3_3, s3_5, hS2⟩
  have hR_l := S2_hR_l.ext hS2
  have hB1 := S2_hB1.ext hS2
  have hE := S2_hE.trans hS2
  refine W.seq ?_
  refine W.seq ?_
  refine W.region (by rfl) ?_
  refine L.val rfl (op_move rfl s3_5) ?_
  refine L.val rfl (op_move rfl s3_0) ?_
  refine L.val rfl (op_len rfl rfl ln25) ?_
  refine L.val rfl (op_lss rfl rfl rfl) ?_
  refine L.nil ?_
  refine thenF_nor ?_
  refine W.cond (t := decide (((k : Nat) : Int) < (l.length : Int))) rfl (fun hc4 => ?_) (fun hc4 => ?_)
  · have hp4 := hc4
    simp only [Bool.and_eq_true, Bool.or_eq_true, Bool.and_eq_false_iff, Bool.or_eq_false_iff, Bool.not_eq_true', Bool.not_eq_false', decide_eq_true_eq, decide_eq_false_iff_not] at hp4
    refine W.skip ?_
    refine thenF_nor ?_
    refine W.seq ?_
    refine W.block ?_
    refine W.seq ?_
    refine W.drawS [Sp.eq (.slice A_l l.length c_l), Sp.eq (.int .i64 ((k : Nat) : Int)), Sp.eq (.pointer (some ((adr A_l).add (k * 22)))), Sp.eq (Enc.val (l[k]! : Vt)), Sp.eq (Enc.val (v : Vt)), Sp.eq (.bool (decide (l[k]! = v)))] mixed (by rfl) (Obls.cons ?_ (Obls.cons ?_ (Obls.cons ?_ (Obls.cons ?_ (Obls.cons ?_ (Obls.cons ?_ Obls.nil)))))) ?_
    · intro f6 w6 hx6 ho6 hd6
      have d6_s0 : f6 0 = (.slice A_l l.length c_l) := (ho6 0 rfl).trans s3_0
      exact D.val rfl (op_move rfl d6_s0)
    · intro f7 w7 hx7 ho7 hd7
      have d7_s5 : f7 5 = (.int .i64 ((k : Nat) : Int)) := (ho7 5 rfl).trans s3_5
      exact D.val rfl (op_move rfl d7_s5)
    · intro f8 w8 hx8 ho8 hd8
      have d8_0 : f8 12 = (.slice A_l l.length c_l) := hd8 0 rfl
      have d8_1 : f8 13 = (.int .i64 ((k : Nat) : Int)) := hd8 1 rfl
      have hR_l := hR_l.ext hx8
      have hB1 := hB1.ext hx8
      skip
      exact D.val rfl (op_index (k := k) rfl d8_0 d8_1 sl25 (hR_l.getA (get_bang (l := l) (k := k) (by omega))).1 rfl (by omega) rfl)
    · intro f9 w9 hx9 ho9 hd9
      have d9_2 : f9 14 = (.pointer (some ((adr A_l).add (k * 22)))) := hd9 2 rfl
      have hR_l := hR_l.ext hx9
      have hB1 := hB1.ext hx9
      skip
      exact D.val rfl (op_load (v := (l[k]! : Vt)) rfl d9_2 ty28 (hR_l.getA (get_bang (l := l) (k := k) (by omega))).2)
    · intro f10 w10 hx10 ho10 hd10
      have d10_s3 : f10 3 = (.pointer (some ⟨b1, 0, none⟩)) := (ho10 3 rfl).trans s3_3
      have hR_l := hR_l.ext hx10
      have hB1 := hB1.ext hx10
      exact D.val rfl (op_load (v := (v : Vt)) rfl d10_s3 ty28 hB1.cells)
    · intro f11 w11 hx11 ho11 hd11
      have d11_3 : f11 15 = (Enc.val (l[k]! : Vt)) := hd11 3 rfl
      have d11_4 : f11 16 = (Enc.val (v : Vt)) := hd11 4 rfl
      exact D.val rfl (op_eqle (a := (l[k]! : Vt)) (b := (v : Vt)) rfl d11_3 d11_4 eq28 (fun _ => ⟨_, rfl⟩) Try.eqGuardType28)
    intro f12 w12 hx12 ho12 hr12
    have s0 : f12 0 = (.slice A_l l.length c_l) := (ho12 0 rfl).trans s3_0
    have s3 : f12 3 = (.pointer (some ⟨b1, 0, none⟩)) := (ho12 3 rfl).trans s3_3
    have s5 : f12 5 = (.int .i64 ((k : Nat) : Int)) := (ho12 5 rfl).trans s3_5
    have s9 : f12 9 = (.bool (decide (((k : Nat) : Int) < (l.length : Int)))) := ho12 9 rfl
    have s17 : f12 17 = (.bool (decide (l[k]! = v))) := hr12 5 (by decide)
    have hE := hE.trans hx12
    have hS2 := hS2.trans hx12
    have hR_l := hR_l.ext hx12
    have hB1 := hB1.ext hx12
    refine thenF_nor ?_
    refine W.cond (t := decide (l[k]! = v)) s17 (fun hc13 => ?_) (fun hc13 => ?_)
    · have hp13 := hc13
      simp only [Bool.and_eq_true, Bool.or_eq_true, Bool.and_eq_false_iff, Bool.or_eq_false_iff, Bool.not_eq_true', Bool.not_eq_false', decide_eq_true_eq, decide_eq_false_iff_not] at hp13
      have hyes := hc13
      have hres := any_yes (p := fun x => decide (x = v)) hany (by omega) hyes
      refine W.seq ?_
      refine W.region (by rfl) ?_
      refine L.val (v := (.bool true)) rfl (op_assign rfl rfl) ?_
      refine L.nil ?_
      refine thenF_nor ?_
      refine W.ret ?_
      refine blockF_ret ?_
      refine thenF_ret ?_
      refine thenF_ret ?_
      refine blockF_ret ?_
      refine thenF_ret ?_
      exact end_ret1 (v := (.bool true)) rfl rfl ⟨(by rw [← hres]), hE⟩
    · have hp13 := hc13
      simp only [Bool.and_eq_true, Bool.or_eq_true, Bool.and_eq_false_iff, Bool.or_eq_false_iff, Bool.not_eq_true', Bool.not_eq_false', decide_eq_true_eq, decide_eq_false_iff_not] at hp13
      have hno := hc13
      refine W.skip ?_
      refine blockF_nor ?_
      refine thenF_nor ?_
      refine W.region (by rfl) ?_
      refine L.val rfl (op_move rfl s5) ?_
      refine L.val rfl (op_add (c := ((k + 1 : Nat) : Int)) rfl rfl rfl (by omega) (by omega)) ?_
      refine L.val rfl (op_assign rfl rfl) ?_
      refine L.nil ?_
      refine thenF_nor ?_
      exact ⟨k + 1, ⟨(by (try dsimp only); omega), (any_go hany (by omega) hno), s0, s3, rfl, hS2⟩, (by (try dsimp only); omega)⟩
  · have hp4 := hc4
    simp only [Bool.and_eq_true, Bool.or_eq_true, Bool.and_eq_false_iff, Bool.or_eq_false_iff, Bool.not_eq_true', Bool.not_eq_false', decide_eq_true_eq, decide_eq_false_iff_not] at hp4
    have hres := any_end hany (by omega)
    refine W.exit ?_
    refine thenF_exit ?_
    refine thenF_exit ?_
    refine blockF_hit ?_
    refine thenF_nor ?_
    refine W.seq ?_
    refine W.region (by rfl) ?_
    refine L.val (v := (.bool false)) rfl (op_assign rfl rfl) ?_
    refine L.nil ?_
    refine thenF_nor ?_
    refine W.ret ?_
    exact end_ret1 (v := (.bool false)) rfl rfl ⟨(by rw [← hres]), hE⟩

end Go.Proofs.Ytdknjfmjddlphaa
