/-
  Contracts of functions of the program, each with its walk in the logic of frames. Printed by a program of this session (wip/gen) from the translation.
-/
import Derived.Test.YtdknjfmjddlphaaG5
import Derived.Test.YtdknjfmjddlphaaSrtUse
set_option linter.unusedSimpArgs false
set_option linter.unusedVariables false
namespace Go.Proofs.Ytdknjfmjddlphaa
open Go Go.Fk

set_option maxRecDepth 100000 in
theorem ascending1_ok {i : Nat} {j : Nat} {q_l : Addr} {A_l : Option Addr} {c_l lo_l hi_l : Nat} {l : List Vt}  {w : World} (hq_l : Cells w q_l [.slice A_l l.length c_l]) (hR_l : Rd w lo_l hi_l A_l l) (hi : i < l.length) (hj : j < l.length) : Gives Try.prog 74 #[(.int .i64 ((i : Nat) : Int)), (.int .i64 ((j : Nat) : Int)), (.pointer (some q_l))] w fun u w' => u = (.bool (voteLess_f l[i]! l[j]!)) ∧ Ext w w' := by
  have hE : Ext w w := Ext.refl w
  have hlen_l := hR_l.len
  refine gives_of_W Try.func74 rfl Try.ntmps74 rfl ?_
  refine W.seq ?_
  refine W.region (by rfl) ?_
  refine L.val (v := (.bool false)) rfl (op_assign rfl rfl) ?_
  refine L.nil ?_
  refine thenF_nor ?_
  refine W.seq ?_
  refine W.drawS [Sp.eq (.slice A_l l.length c_l), Sp.eq (.int .i64 ((i : Nat) : Int)), Sp.eq (.pointer (some ((adr A_l).add (i * 22)))), Sp.eq (Enc.val (l[i]! : Vt)), Sp.eq (.slice A_l l.length c_l), Sp.eq (.int .i64 ((j : Nat) : Int)), Sp.eq (.pointer (some ((adr A_l).add (j * 22)))), Sp.eq (Enc.val (l[j]! : Vt)), Sp.eq (.bool (voteLess_f (l[i]!) (l[j]!))), Sp.eq (.bool (voteLess_f (l[i]!) (l[j]!)))] mixed (by rfl) (Obls.cons ?_ (Obls.cons ?_ (Obls.cons ?_ (Obls.cons ?_ (Obls.cons ?_ (Obls.cons ?_ (Obls.cons ?_ (Obls.cons ?_ (Obls.cons ?_ (Obls.cons ?_ Obls.nil)))))))))) ?_
  · intro f2 w2 hx2 ho2 hd2
    have d2_s2 : f2 2 = (.pointer (some q_l)) := ho2 2 rfl
    have hq_l := hq_l.ext hx2
    have hR_l := hR_l.ext hx2
    exact D.val rfl (op_load1 rfl d2_s2 one25 (hq_l.one (n := 0) rfl))
  · intro f3 w3 hx3 ho3 hd3
    have d3_s0 : f3 0 = (.int .i64 ((i : Nat) : Int)) := ho3 0 rfl
    exact D.val rfl (op_move rfl d3_s0)
  · intro f4 w4 hx4 ho4 hd4
    have d4_0 : f4 6 = (.slice A_l l.length c_l) := hd4 0 rfl
    have d4_1 : f4 7 = (.int .i64 ((i : Nat) : Int)) := hd4 1 rfl
    have hq_l := hq_l.ext hx4
    have hR_l := hR_l.ext hx4
    skip
    exact D.val rfl (op_index (k := i) rfl d4_0 d4_1 sl25 (hR_l.getA (get_bang (l := l) (k := i) (by omega))).1 rfl (by omega) rfl)
  · intro f5 w5 hx5 ho5 hd5
    have d5_2 : f5 8 = (.pointer (some ((adr A_l).add (i * 22)))) := hd5 2 rfl
    have hq_l := hq_l.ext hx5
    have hR_l := hR_l.ext hx5
    skip
    exact D.val rfl (op_load (v := (l[i]! : Vt)) rfl d5_2 ty28 (hR_l.getA (get_bang (l := l) (k := i) (by omega))).2)
  · intro f6 w6 hx6 ho6 hd6
    have d6_s2 : f6 2 = (.pointer (some q_l)) := ho6 2 rfl
    have hq_l := hq_l.ext hx6
    have hR_l := hR_l.ext hx6
    exact D.val rfl (op_load1 rfl d6_s2 one25 (hq_l.one (n := 0) rfl))
  · intro f7 w7 hx7 ho7 hd7
    have d7_s1 : f7 1 = (.int .i64 ((j : Nat) : Int)) := ho7 1 rfl
    exact D.val rfl (op_move rfl d7_s1)
  · intro f8 w8 hx8 ho8 hd8
    have d8_4 : f8 10 = (.slice A_l l.length c_l) := hd8 4 rfl
    have d8_5 : f8 11 = (.int .i64 ((j : Nat) : Int)) := hd8 5 rfl
    have hq_l := hq_l.ext hx8
    have hR_l := hR_l.ext hx8
    skip
    exact D.val rfl (op_index (k := j) rfl d8_4 d8_5 sl25 (hR_l.getA (get_bang (l := l) (k := j) (by omega))).1 rfl (by omega) rfl)
  · intro f9 w9 hx9 ho9 hd9
    have d9_6 : f9 12 = (.pointer (some ((adr A_l).add (j * 22)))) := hd9 6 rfl
    have hq_l := hq_l.ext hx9
    have hR_l := hR_l.ext hx9
    skip
    exact D.val rfl (op_load (v := (l[j]! : Vt)) rfl d9_6 ty28 (hR_l.getA (get_bang (l := l) (k := j) (by omega))).2)
  · intro f10 w10 hx10 ho10 hd10
    have d10_3 : f10 9 = (Enc.val (l[i]! : Vt)) := hd10 3 rfl
    have d10_7 : f10 13 = (Enc.val (l[j]! : Vt)) := hd10 7 rfl
    have hq_l := hq_l.ext hx10
    have hR_l := hR_l.ext hx10
    exact D.call (R := (Sp.eq (.bool (voteLess_f (l[i]!) (l[j]!)))).p) rfl (OpS.call (op_call rfl (argsC d10_3 (argsC d10_7 argsN)) Try.func21 rfl rfl) voteLess_ok)
  · intro f11 w11 hx11 ho11 hd11
    have d11_8 : f11 14 = (.bool (voteLess_f (l[i]!) (l[j]!))) := hd11 8 rfl
    exact D.val rfl (op_assign rfl d11_8)
  intro f12 w12 hx12 ho12 hr12
  have s0 : f12 0 = (.int .i64 ((i : Nat) : Int)) := ho12 0 rfl
  have s1 : f12 1 = (.int .i64 ((j : Nat) : Int)) := ho12 1 rfl
  have s2 : f12 2 = (.pointer (some q_l)) := ho12 2 rfl
  have s5 : f12 5 = (.bool (voteLess_f (l[i]!) (l[j]!))) := hr12 9 (by decide)
  have hE := hE.trans hx12
  have hq_l := hq_l.ext hx12
  have hR_l := hR_l.ext hx12
  refine thenF_nor ?_
  refine W.ret ?_
  exact end_ret1 (v := (.bool (voteLess_f (l[i]!) (l[j]!)))) rfl s5 ⟨rfl, hE⟩

set_option maxRecDepth 100000 in
set_option maxHeartbeats 4000000 in
theorem ascending_ok {parent : Nm} {A_l : Option Addr} {c_l lo_l hi_l : Nat} {l : List Vt}  {w : World} (hR_l : Rd w lo_l hi_l A_l l) (hl : l.length ≤ 1000000) : Gives Try.prog 52 #[(Enc.val (parent : Nm)), (.slice A_l l.length c_l)] w fun u w' => SlR w' u (asc_f parent l : List Vt) ∧ Ext w w' := by
  have hE : Ext w w := Ext.refl w
  have hlen_l := hR_l.len
  refine gives_of_W Try.func52 rfl Try.ntmps52 rfl ?_
  refine W.seq ?_
  refine W.region (by rfl) ?_
  refine L.step rfl (op_box (cs := (Enc.cells (parent : Nm))) rfl rfl rfl) ?_
  rintro _ w1 ⟨b1, rfl, hb1, hB1, hx1⟩
  have hE := hE.trans hx1
  have hR_l := hR_l.ext hx1
  refine L.val rfl (op_assign rfl rfl) ?_
  refine L.nil ?_
  refine thenF_nor ?_
  refine W.seq ?_
  have S2_hR_l := hR_l
  have S2_hB1 := hB1
  have S2_hE := hE
  have hS2 : Ext w1 w1 := Ext.refl _
  refine W.region (by rfl) ?_
  refine L.step rfl (op_alloc (z := (.slice none 0 0)) (cs := [(.slice none 0 0)]) rfl (by kernel_rfl) rfl) ?_
  rintro _ w3 ⟨b3, rfl, hb3, hB3, hx3⟩
  have hbb3_hE := Nat.le_trans hE.size hb3
  have hbb3_hS2 := Nat.le_trans hS2.size hb3
  have hE := hE.trans hx3
  have hS2 := hS2.trans hx3
  have hR_l := hR_l.ext hx3
  have hB1 := hB1.ext hx3
  refine L.nil ?_
  refine thenF_nor ?_
  refine W.seq ?_
  refine W.seq ?_
  refine W.region (by rfl) ?_
  refine L.val rfl (op_move rfl rfl) ?_
  refine L.val rfl (op_len rfl rfl ln25) ?_
  refine L.val rfl (op_move rfl rfl) ?_
  refine L.nil ?_
  refine thenF_nor ?_
  refine W.block ?_
  refine W.loopg (γ := Nat) (fun (k : Nat) (f : Fr) (ww : World) => k ≤ l.length ∧ f 2 = (.pointer (some ⟨b1, 0, none⟩)) ∧ f 4 = (.slice none 0 0) ∧ f 11 = (.slice A_l l.length c_l) ∧ f 12 = (.int .i64 (l.length : Int)) ∧ f 13 = (.int .i64 ((k : Nat) : Int)) ∧ f 5 = (.pointer (some ⟨b3, 0, none⟩)) ∧ (∃ vv, Box ww b3 25 [vv] ∧ Fk.Own ww (b3 + 1) 28 vv ((l.take k).filter (fun x => decide (x.parent = parent)))) ∧ Ext w1 ww) (fun (k : Nat) => l.length - k) 0 ⟨(by (try dsimp only); omega), rfl, rfl, rfl, rfl, rfl, rfl, ⟨_, hB3, Fk.Own.nil _ _ _⟩, hS2⟩ ?_
  rintro k f4 w4 ⟨hk, s4_2, s4_4, s4_11, s4_12, s4_13, s4_5, hM4_5, hS2⟩
  have hR_l := S2_hR_l.ext hS2
  have hB1 := S2_hB1.ext hS2
  have hE := S2_hE.trans hS2
  obtain ⟨v4_5, hB4_5, hO4_5⟩ := hM4_5
  have hfl := List.length_filter_le (fun x => decide (x.parent = parent)) (l.take k)
  have htl := List.length_take_le' k l
  refine W.seq ?_
  refine W.region (by rfl) ?_
  refine L.val rfl (op_lss rfl s4_13 s4_12) ?_
  refine L.nil ?_
  refine thenF_nor ?_
  refine W.seq ?_
  refine W.cond (t := decide (((k : Nat) : Int) < (l.length : Int))) rfl (fun hc5 => ?_) (fun hc5 => ?_)
  · have hp5 := hc5
    simp only [Bool.and_eq_true, Bool.or_eq_true, Bool.and_eq_false_iff, Bool.or_eq_false_iff, Bool.not_eq_true', Bool.not_eq_false', decide_eq_true_eq, decide_eq_false_iff_not] at hp5
    refine W.skip ?_
    refine thenF_nor ?_
    refine W.seq ?_
    refine W.block ?_
    refine W.seq ?_
    refine W.region (by rfl) ?_
    refine L.val rfl (op_index (k := k) rfl s4_11 s4_13 sl25 (hR_l.getA (get_bang (l := l) (k := k) (by omega))).1 rfl (by omega) rfl) ?_
    refine L.val rfl (op_load (v := (l[k]! : Vt)) rfl rfl ty28 (hR_l.getA (get_bang (l := l) (k := k) (by omega))).2) ?_
    refine L.newvar (v := (Enc.val (l[k]! : Vt))) (cs := (Enc.cells (l[k]! : Vt))) rfl rfl rfl rfl rfl rfl (fun _ => rfl) rfl si28 zs28 (Enc.one _) ?_
    intro b6 w6 hb6 hB6 hx6
    have hbb6_hE := Nat.le_trans hE.size hb6
    have hbb6_hS2 := Nat.le_trans hS2.size hb6
    have hE := hE.trans hx6
    have hS2 := hS2.trans hx6
    have hR_l := hR_l.ext hx6
    have hB1 := hB1.ext hx6
    have hB4_5 := hB4_5.ext hx6
    have hO4_5 := hO4_5.ext hx6
    refine L.nil ?_
    refine thenF_nor ?_
    refine W.seq ?_
    refine W.region (by rfl) ?_
    refine L.val rfl (op_field rfl rfl fo28_6 rfl) ?_
    refine L.val rfl (op_load (v := ((l[k]!).parent : Nm)) rfl rfl ty24 (sub_nm 6 hB6.cells rfl)) ?_
    refine L.val rfl (op_load (v := (parent : Nm)) rfl s4_2 ty24 hB1.cells) ?_
    refine L.val rfl (op_eqle (a := ((l[k]!).parent : Nm)) (b := (parent : Nm)) rfl rfl rfl eq24 (fun _ => ⟨_, rfl⟩) Try.eqGuardType24) ?_
    refine L.nil ?_
    refine thenF_nor ?_
    refine W.cond (t := decide ((l[k]!).parent = parent)) rfl (fun hc7 => ?_) (fun hc7 => ?_)
    · have hp7 := hc7
      simp only [Bool.and_eq_true, Bool.or_eq_true, Bool.and_eq_false_iff, Bool.or_eq_false_iff, Bool.not_eq_true', Bool.not_eq_false', decide_eq_true_eq, decide_eq_false_iff_not] at hp7
      have hstep := filter_yes (l := l) (p := fun x => decide (x.parent = parent)) (k := k) (by omega) hc7
      refine W.region (by rfl) ?_
      refine L.val rfl (op_load1 rfl s4_5 one25 (hB4_5.cells.one (n := 0) rfl)) ?_
      refine L.val rfl (op_load (v := (l[k]! : Vt)) rfl rfl ty28 hB6.cells) ?_
      refine L.step rfl (op_slice1 (a := (l[k]! : Vt)) rfl rfl sl25 zs28 (by decide)) ?_
      rintro _ w8 ⟨b8, rfl, hb8, hB8, hx8⟩
      have hE := hE.trans hx8
      have hS2 := hS2.trans hx8
      have hR_l := hR_l.ext hx8
      have hB1 := hB1.ext hx8
      have hB4_5 := hB4_5.ext hx8
      have hO4_5 := hO4_5.ext hx8
      have hB6 := hB6.ext hx8
      refine L.step rfl (op_append (a := (l[k]! : Vt)) (ad := ⟨b8, 0, none⟩) rfl rfl rfl sl25 zs28 bt28 hO4_5 hB8.cells (by omega) (by decide) (Nat.succ_le_of_lt hB4_5.lt)) ?_
      rintro v9 w9 ⟨hO9, hg9⟩
      have hS2 := hS2.own (hO4_5.lower (by omega)) hg9
      have hB4_5 := hB4_5.far hg9 (hO4_5.ne' (Nat.lt_succ_self _))
      have hR_l := S2_hR_l.ext hS2
      have hB1 := S2_hB1.ext hS2
      have hE := S2_hE.trans hS2
      refine L.step rfl (op_put (v := v9) rfl s4_5 rfl si25 hB4_5 (Nat.le_of_ble_eq_true rfl) hO9.cells hO9.onec) ?_
      rintro _ w10 ⟨hB10, hg10⟩
      have hO9 := (hO9).kept hg10 (hO9.ne (Nat.lt_succ_self _))
      have hS2 := hS2.grown hg10 (by intro k hk; cases hk; omega)
      have hR_l := S2_hR_l.ext hS2
      have hB1 := S2_hB1.ext hS2
      have hE := S2_hE.trans hS2
      have hB4_5 := hB10
      refine L.nil ?_
      refine blockF_nor ?_
      refine thenF_nor ?_
      refine W.region (by rfl) ?_
      refine L.val rfl (op_add (c := ((k + 1 : Nat) : Int)) rfl s4_13 rfl (by omega) (by omega)) ?_
      refine L.val rfl (op_move rfl rfl) ?_
      refine L.nil ?_
      refine thenF_nor ?_
      exact ⟨k + 1, ⟨(by (try dsimp only); omega), s4_2, s4_4, s4_11, s4_12, rfl, s4_5, (by rw [← hstep]; exact ⟨_, hB4_5, hO9⟩), hS2⟩, (by (try dsimp only); omega)⟩
    · have hp7 := hc7
      simp only [Bool.and_eq_true, Bool.or_eq_true, Bool.and_eq_false_iff, Bool.or_eq_false_iff, Bool.not_eq_true', Bool.not_eq_false', decide_eq_true_eq, decide_eq_false_iff_not] at hp7
      have hstep := filter_no (l := l) (p := fun x => decide (x.parent = parent)) (k := k) (by omega) hc7
      refine W.skip ?_
      refine blockF_nor ?_
      refine thenF_nor ?_
      refine W.region (by rfl) ?_
      refine L.val rfl (op_add (c := ((k + 1 : Nat) : Int)) rfl s4_13 rfl (by omega) (by omega)) ?_
      refine L.val rfl (op_move rfl rfl) ?_
      refine L.nil ?_
      refine thenF_nor ?_
      exact ⟨k + 1, ⟨(by (try dsimp only); omega), s4_2, s4_4, s4_11, s4_12, rfl, s4_5, (by rw [← hstep]; exact ⟨_, hB4_5, hO4_5⟩), hS2⟩, (by (try dsimp only); omega)⟩
  · have hp5 := hc5
    simp only [Bool.and_eq_true, Bool.or_eq_true, Bool.and_eq_false_iff, Bool.or_eq_false_iff, Bool.not_eq_true', Bool.not_eq_false', decide_eq_true_eq, decide_eq_false_iff_not] at hp5
    have hkl : k = l.length := by omega
    rw [hkl, List.take_length] at hO4_5
    have hfl2 := List.length_filter_le (fun x => decide (x.parent = parent)) l
    refine W.exit ?_
    refine thenF_exit ?_
    refine thenF_exit ?_
    refine blockF_hit ?_
    refine thenF_nor ?_
    refine W.seq ?_
    obtain ⟨A11, c11, hv11, hR11, hcap11⟩ := (hO4_5).form
    have hlen11 := hR11.len
    have hBs11 := hB4_5
    rw [hv11] at hBs11
    refine W.region (by rfl) ?_
    refine L.val rfl (op_load1 rfl s4_5 one25 (hBs11.cells.one (n := 0) rfl)) ?_
    refine L.val rfl (op_iface rfl rfl (by kernel_rfl)) ?_
    refine L.val rfl (op_func rfl (argsC s4_5 argsN)) ?_
    have hOs11 := hO4_5
    rw [hv11] at hOs11
    refine L.step rfl (OpS.call (op_call rfl (argsC rfl (argsC rfl argsN)) Try.func60 rfl rfl) (sortSlice_ok st25 vote_lin.swo hOs11 (by omega) (fun blk eA => by subst eA; exact lessOk_box Try.func74 rfl rfl ascending1_ok hBs11 (by have hh := hOs11.lt blk rfl; omega) hlen11))) ?_
    rintro _ w12 ⟨rfl, ls12, hpm12, hsl12, hso12, hR12, hg12⟩
    have hBz12 := hBs11.far hg12 (hOs11.ne' (Nat.lt_succ_self _))
    have hS2 := hS2.own (hOs11.lower (by omega)) hg12
    rw [← hsl12] at hBz12
    have hlen12 := hR12.len
    have hR_l := S2_hR_l.ext hS2
    have hB1 := S2_hB1.ext hS2
    have hE := S2_hE.trans hS2
    refine L.nil ?_
    refine thenF_nor ?_
    refine W.seq ?_
    refine W.region (by rfl) ?_
    refine L.val rfl (op_assign rfl rfl) ?_
    refine L.nil ?_
    refine thenF_nor ?_
    refine W.seq ?_
    refine W.seq ?_
    refine W.region (by rfl) ?_
    refine L.val rfl (op_load1 rfl s4_5 one25 (hBz12.cells.one (n := 0) rfl)) ?_
    refine L.val rfl (op_len rfl rfl ln25) ?_
    refine L.val rfl (op_move rfl rfl) ?_
    refine L.nil ?_
    refine thenF_nor ?_
    refine W.block ?_
    have S13_hR_l := hR_l
    have S13_hB1 := hB1
    have S13_hBz12 := hBz12
    have S13_hR12 := hR12
    have S13_hE := hE
    have S13_hS2 := hS2
    have hS13 : Ext w12 w12 := Ext.refl _
    refine W.loopg (γ := Nat) (fun (k : Nat) (f : Fr) (ww : World) => k ≤ ls12.length ∧ f 4 = (.slice none 0 0) ∧ f 5 = (.pointer (some ⟨b3, 0, none⟩)) ∧ f 30 = (.slice A11 ls12.length c11) ∧ f 31 = (.int .i64 (ls12.length : Int)) ∧ f 32 = (.int .i64 ((k : Nat) : Int)) ∧ Fk.Own ww w12.heap.size 28 (f 8) (dedupN ls12 k) ∧ Ext w12 ww) (fun (k : Nat) => ls12.length - k) 0 ⟨(by (try dsimp only); omega), s4_4, s4_5, rfl, rfl, rfl, (own_at (v := .slice none 0 0) rfl (Fk.Own.nil _ _ _)), hS13⟩ ?_
    rintro k f14 w14 ⟨hk, s14_4, s14_5, s14_30, s14_31, s14_32, hO14_8, hS13⟩
    have hR_l := S13_hR_l.ext hS13
    have hB1 := S13_hB1.ext hS13
    have hBz12 := S13_hBz12.ext hS13
    have hR12 := S13_hR12.ext hS13
    have hE := S13_hE.trans hS13
    have hS2 := S13_hS2.trans hS13
    obtain ⟨v14_8, s14_8⟩ : ∃ v, f14 8 = v := ⟨_, rfl⟩
    rw [s14_8] at hO14_8
    have hdl := dedup_len ls12 k
    refine W.seq ?_
    refine W.region (by rfl) ?_
    refine L.val rfl (op_lss rfl s14_32 s14_31) ?_
    refine L.nil ?_
    refine thenF_nor ?_
    refine W.seq ?_
    refine W.cond (t := decide (((k : Nat) : Int) < (ls12.length : Int))) rfl (fun hc15 => ?_) (fun hc15 => ?_)
    · have hp15 := hc15
      simp only [Bool.and_eq_true, Bool.or_eq_true, Bool.and_eq_false_iff, Bool.or_eq_false_iff, Bool.not_eq_true', Bool.not_eq_false', decide_eq_true_eq, decide_eq_false_iff_not] at hp15
      refine W.skip ?_
      refine thenF_nor ?_
      refine W.seq ?_
      refine W.block ?_
      refine W.seq ?_
      refine W.region (by rfl) ?_
      refine L.val rfl (op_move rfl s14_32) ?_
      refine L.val rfl (op_index (k := k) rfl s14_30 s14_32 sl25 (hR12.getA (get_bang (l := ls12) (k := k) (by omega))).1 rfl (by omega) rfl) ?_
      refine L.val rfl (op_load (v := (ls12[k]! : Vt)) rfl rfl ty28 (hR12.getA (get_bang (l := ls12) (k := k) (by omega))).2) ?_
      have A16_hR_l := hR_l
      have A16_hB1 := hB1
      have A16_hBz12 := hBz12
      have A16_hR12 := hR12
      have A16_hO14_8 := hO14_8
      have A16_hE := hE
      have A16_hS2 := hS2
      have A16_hS13 := hS13
      refine L.step rfl (op_alloc (z := Enc.val (default : Vt)) (cs := Enc.cells (default : Vt)) rfl (by kernel_rfl) rfl) ?_
      rintro _ w16 ⟨b16, rfl, hb16, hB16, hx16⟩
      have hbb16_hE := Nat.le_trans hE.size hb16
      have hbb16_hS2 := Nat.le_trans hS2.size hb16
      have hbb16_hS13 := Nat.le_trans hS13.size hb16
      have hE := hE.trans hx16
      have hS2 := hS2.trans hx16
      have hS13 := hS13.trans hx16
      have hR_l := hR_l.ext hx16
      have hB1 := hB1.ext hx16
      have hBz12 := hBz12.ext hx16
      have hR12 := hR12.ext hx16
      have hO14_8 := hO14_8.ext hx16
      refine L.val rfl (op_assign rfl rfl) ?_
      refine L.step rfl (op_fillbox (v := (Enc.val (ls12[k]! : Vt))) (vs := (Enc.cells (ls12[k]! : Vt))) rfl rfl rfl rfl si28 hB16 (by simp [Enc.len]) (Enc.one _)) ?_
      rintro _ w17 ⟨hB16, hg17⟩
      have hxx17 : Ext w14 w17 := hx16.grown hg17 (by intro k hk; cases hk; exact hb16)
      have hE := A16_hE.trans hxx17
      have hS2 := A16_hS2.trans hxx17
      have hS13 := A16_hS13.trans hxx17
      have hR_l := A16_hR_l.ext hxx17
      have hB1 := A16_hB1.ext hxx17
      have hBz12 := A16_hBz12.ext hxx17
      have hR12 := A16_hR12.ext hxx17
      have hO14_8 := A16_hO14_8.ext hxx17
      refine L.nil ?_
      refine thenF_nor ?_
      refine W.seq ?_
      refine W.drawS [Sp.eq (.int .i64 ((k : Nat) : Int)), Sp.eq (.bool (decide (((k : Nat) : Int) = 0))), Sp.eq (.bool (decide (((k : Nat) : Int) = 0))), Sp.eq (vif (!(decide (((k : Nat) : Int) = 0))) (Enc.val (ls12[k]! : Vt))), Sp.eq (vif (!(decide (((k : Nat) : Int) = 0))) (.slice A11 ls12.length c11)), Sp.eq (vif (!(decide (((k : Nat) : Int) = 0))) (.int .i64 ((k : Nat) : Int))), Sp.eq (vif (!(decide (((k : Nat) : Int) = 0))) (.int .i64 ((k - 1 : Nat) : Int))), Sp.eq (vif (!(decide (((k : Nat) : Int) = 0))) (.pointer (some ((adr A11).add ((k - 1) * 22))))), Sp.eq (vif (!(decide (((k : Nat) : Int) = 0))) (Enc.val (ls12[k - 1]! : Vt))), Sp.eq (vif (!(decide (((k : Nat) : Int) = 0))) (.bool (!decide (ls12[k]! = ls12[k - 1]!)))), Sp.eq (.bool ((decide (((k : Nat) : Int) = 0)) || (!decide (ls12[k]! = ls12[k - 1]!))))] mixed (by rfl) (Obls.cons ?_ (Obls.cons ?_ (Obls.cons ?_ (Obls.cons ?_ (Obls.cons ?_ (Obls.cons ?_ (Obls.cons ?_ (Obls.cons ?_ (Obls.cons ?_ (Obls.cons ?_ (Obls.cons ?_ Obls.nil))))))))))) ?_
      · intro f19 w19 hx19 ho19 hd19
        have d19_s9 : f19 9 = (.int .i64 ((k : Nat) : Int)) := ho19 9 rfl
        exact D.val rfl (op_move rfl d19_s9)
      · intro f20 w20 hx20 ho20 hd20
        have d20_0 : f20 37 = (.int .i64 ((k : Nat) : Int)) := hd20 0 rfl
        exact D.val rfl (op_eql rfl d20_0 rfl)
      · intro f21 w21 hx21 ho21 hd21
        have d21_1 : f21 38 = (.bool (decide (((k : Nat) : Int) = 0))) := hd21 1 rfl
        exact D.val rfl (op_move rfl d21_1)
      · intro f22 w22 hx22 ho22 hd22
        have d22_s10 : f22 10 = (.pointer (some ⟨b16, 0, none⟩)) := ho22 10 rfl
        have d22_2 : f22 39 = (.bool (decide (((k : Nat) : Int) = 0))) := hd22 2 rfl
        have hR_l := hR_l.ext hx22
        have hB1 := hB1.ext hx22
        have hBz12 := hBz12.ext hx22
        have hR12 := hR12.ext hx22
        have hO14_8 := hO14_8.ext hx22
        have hB16 := hB16.ext hx22
        exact D.guardv (wanted_no rfl rfl d22_2) (fun hg => (op_load (v := (ls12[k]! : Vt)) rfl d22_s10 ty28 hB16.cells))
      · intro f23 w23 hx23 ho23 hd23
        have d23_s5 : f23 5 = (.pointer (some ⟨b3, 0, none⟩)) := (ho23 5 rfl).trans s14_5
        have d23_2 : f23 39 = (.bool (decide (((k : Nat) : Int) = 0))) := hd23 2 rfl
        have hR_l := hR_l.ext hx23
        have hB1 := hB1.ext hx23
        have hBz12 := hBz12.ext hx23
        have hR12 := hR12.ext hx23
        have hO14_8 := hO14_8.ext hx23
        have hB16 := hB16.ext hx23
        exact D.guardv (wanted_no rfl rfl d23_2) (fun hg => (op_load1 rfl d23_s5 one25 (hBz12.cells.one (n := 0) rfl)))
      · intro f24 w24 hx24 ho24 hd24
        have d24_s9 : f24 9 = (.int .i64 ((k : Nat) : Int)) := ho24 9 rfl
        have d24_2 : f24 39 = (.bool (decide (((k : Nat) : Int) = 0))) := hd24 2 rfl
        exact D.guardv (wanted_no rfl rfl d24_2) (fun hg => (op_move rfl d24_s9))
      · intro f25 w25 hx25 ho25 hd25
        have d25_2 : f25 39 = (.bool (decide (((k : Nat) : Int) = 0))) := hd25 2 rfl
        have d25_5 : f25 42 = (vif (!(decide (((k : Nat) : Int) = 0))) (.int .i64 ((k : Nat) : Int))) := hd25 5 rfl
        exact D.guardv (wanted_no rfl rfl d25_2) (fun hg => by have hp := hg; simp only [Bool.and_eq_true, Bool.or_eq_true, Bool.not_eq_true', decide_eq_true_eq, decide_eq_false_iff_not, bne_iff_ne, beq_iff_eq] at hp; skip; exact (op_sub (c := ((k - 1 : Nat) : Int)) rfl ((show _ = vif _ (.int .i64 ((k : Nat) : Int)) from d25_5).trans (vif_t hg).symm) rfl (by omega) (by omega)))
      · intro f26 w26 hx26 ho26 hd26
        have d26_2 : f26 39 = (.bool (decide (((k : Nat) : Int) = 0))) := hd26 2 rfl
        have d26_4 : f26 41 = (vif (!(decide (((k : Nat) : Int) = 0))) (.slice A11 ls12.length c11)) := hd26 4 rfl
        have d26_6 : f26 43 = (vif (!(decide (((k : Nat) : Int) = 0))) (.int .i64 ((k - 1 : Nat) : Int))) := hd26 6 rfl
        have hR_l := hR_l.ext hx26
        have hB1 := hB1.ext hx26
        have hBz12 := hBz12.ext hx26
        have hR12 := hR12.ext hx26
        have hO14_8 := hO14_8.ext hx26
        have hB16 := hB16.ext hx26
        exact D.guardv (wanted_no rfl rfl d26_2) (fun hg => by have hp := hg; simp only [Bool.and_eq_true, Bool.or_eq_true, Bool.not_eq_true', decide_eq_true_eq, decide_eq_false_iff_not, bne_iff_ne, beq_iff_eq] at hp; skip; exact (op_index (k := k - 1) rfl ((show _ = vif _ (.slice A11 ls12.length c11) from d26_4).trans (vif_t hg).symm) ((show _ = vif _ (.int .i64 ((k - 1 : Nat) : Int)) from d26_6).trans (vif_t hg).symm) sl25 (hR12.getA (get_bang (l := ls12) (k := k - 1) (by omega))).1 rfl (by omega) rfl))
      · intro f27 w27 hx27 ho27 hd27
        have d27_2 : f27 39 = (.bool (decide (((k : Nat) : Int) = 0))) := hd27 2 rfl
        have d27_7 : f27 44 = (vif (!(decide (((k : Nat) : Int) = 0))) (.pointer (some ((adr A11).add ((k - 1) * 22))))) := hd27 7 rfl
        have hR_l := hR_l.ext hx27
        have hB1 := hB1.ext hx27
        have hBz12 := hBz12.ext hx27
        have hR12 := hR12.ext hx27
        have hO14_8 := hO14_8.ext hx27
        have hB16 := hB16.ext hx27
        exact D.guardv (wanted_no rfl rfl d27_2) (fun hg => by have hp := hg; simp only [Bool.and_eq_true, Bool.or_eq_true, Bool.not_eq_true', decide_eq_true_eq, decide_eq_false_iff_not, bne_iff_ne, beq_iff_eq] at hp; skip; exact (op_load (v := (ls12[k - 1]! : Vt)) rfl ((show _ = vif _ (.pointer (some ((adr A11).add ((k - 1) * 22)))) from d27_7).trans (vif_t hg).symm) ty28 (hR12.getA (get_bang (l := ls12) (k := k - 1) (by omega))).2))
      · intro f28 w28 hx28 ho28 hd28
        have d28_2 : f28 39 = (.bool (decide (((k : Nat) : Int) = 0))) := hd28 2 rfl
        have d28_3 : f28 40 = (vif (!(decide (((k : Nat) : Int) = 0))) (Enc.val (ls12[k]! : Vt))) := hd28 3 rfl
        have d28_8 : f28 45 = (vif (!(decide (((k : Nat) : Int) = 0))) (Enc.val (ls12[k - 1]! : Vt))) := hd28 8 rfl
        exact D.guardv (wanted_no rfl rfl d28_2) (fun hg => (op_neqe (a := (ls12[k]! : Vt)) (b := (ls12[k - 1]! : Vt)) rfl ((show _ = vif _ (Enc.val (ls12[k]! : Vt)) from d28_3).trans (vif_t hg).symm) ((show _ = vif _ (Enc.val (ls12[k - 1]! : Vt)) from d28_8).trans (vif_t hg).symm) eq28 (fun _ => ⟨_, rfl⟩) Try.eqGuardType28))
      · intro f29 w29 hx29 ho29 hd29
        have d29_2 : f29 39 = (.bool (decide (((k : Nat) : Int) = 0))) := hd29 2 rfl
        have d29_9 : f29 46 = (vif (!(decide (((k : Nat) : Int) = 0))) (.bool (!decide (ls12[k]! = ls12[k - 1]!)))) := hd29 9 rfl
        exact D.val rfl (op_or rfl d29_2 rfl d29_9)
      intro f30 w30 hx30 ho30 hr30
      have s4 : f30 4 = (.slice none 0 0) := (ho30 4 rfl).trans s14_4
      have s5 : f30 5 = (.pointer (some ⟨b3, 0, none⟩)) := (ho30 5 rfl).trans s14_5
      have s8 : f30 8 = v14_8 := (ho30 8 rfl).trans s14_8
      have s9 : f30 9 = (.int .i64 ((k : Nat) : Int)) := ho30 9 rfl
      have s10 : f30 10 = (.pointer (some ⟨b16, 0, none⟩)) := ho30 10 rfl
      have s30 : f30 30 = (.slice A11 ls12.length c11) := (ho30 30 rfl).trans s14_30
      have s31 : f30 31 = (.int .i64 (ls12.length : Int)) := (ho30 31 rfl).trans s14_31
      have s32 : f30 32 = (.int .i64 ((k : Nat) : Int)) := (ho30 32 rfl).trans s14_32
      have s33 : f30 33 = (.bool (decide (((k : Nat) : Int) < (ls12.length : Int)))) := ho30 33 rfl
      have s47 : f30 47 = (.bool ((decide (((k : Nat) : Int) = 0)) || (!decide (ls12[k]! = ls12[k - 1]!)))) := hr30 10 (by decide)
      have hE := hE.trans hx30
      have hS2 := hS2.trans hx30
      have hS13 := hS13.trans hx30
      have hR_l := hR_l.ext hx30
      have hB1 := hB1.ext hx30
      have hBz12 := hBz12.ext hx30
      have hR12 := hR12.ext hx30
      have hO14_8 := hO14_8.ext hx30
      have hB16 := hB16.ext hx30
      refine thenF_nor ?_
      refine W.cond (t := (decide (((k : Nat) : Int) = 0)) || (!decide (ls12[k]! = ls12[k - 1]!))) s47 (fun hc31 => ?_) (fun hc31 => ?_)
      · have hp31 := hc31
        simp only [Bool.and_eq_true, Bool.or_eq_true, Bool.and_eq_false_iff, Bool.or_eq_false_iff, Bool.not_eq_true', Bool.not_eq_false', decide_eq_true_eq, decide_eq_false_iff_not] at hp31
        have hstep := dedup_yes hc31
        refine W.region (by rfl) ?_
        refine L.val rfl (op_move rfl s8) ?_
        refine L.val rfl (op_load (v := (ls12[k]! : Vt)) rfl s10 ty28 hB16.cells) ?_
        refine L.step rfl (op_slice1 (a := (ls12[k]! : Vt)) rfl rfl sl25 zs28 (by decide)) ?_
        rintro _ w32 ⟨b32, rfl, hb32, hB32, hx32⟩
        have hE := hE.trans hx32
        have hS2 := hS2.trans hx32
        have hS13 := hS13.trans hx32
        have hR_l := hR_l.ext hx32
        have hB1 := hB1.ext hx32
        have hBz12 := hBz12.ext hx32
        have hR12 := hR12.ext hx32
        have hO14_8 := hO14_8.ext hx32
        have hB16 := hB16.ext hx32
        refine L.step rfl (op_append (a := (ls12[k]! : Vt)) (ad := ⟨b32, 0, none⟩) rfl rfl rfl sl25 zs28 bt28 hO14_8 hB32.cells (by omega) (by decide) hS13.size) ?_
        rintro v33 w33 ⟨hO33, hg33⟩
        have hS13 := hS13.own hO14_8 hg33
        have hR_l := S13_hR_l.ext hS13
        have hB1 := S13_hB1.ext hS13
        have hBz12 := S13_hBz12.ext hS13
        have hR12 := S13_hR12.ext hS13
        have hE := S13_hE.trans hS13
        have hS2 := S13_hS2.trans hS13
        refine L.val rfl (op_assign rfl rfl) ?_
        refine L.nil ?_
        refine blockF_nor ?_
        refine thenF_nor ?_
        refine W.region (by rfl) ?_
        refine L.val rfl (op_add (c := ((k + 1 : Nat) : Int)) rfl s32 rfl (by omega) (by omega)) ?_
        refine L.val rfl (op_move rfl rfl) ?_
        refine L.nil ?_
        refine thenF_nor ?_
        exact ⟨k + 1, ⟨(by (try dsimp only); omega), s4, s5, s30, s31, rfl, (own_at (v := v33) rfl (by rw [hstep]; exact hO33)), hS13⟩, (by (try dsimp only); omega)⟩
      · have hp31 := hc31
        simp only [Bool.and_eq_true, Bool.or_eq_true, Bool.and_eq_false_iff, Bool.or_eq_false_iff, Bool.not_eq_true', Bool.not_eq_false', decide_eq_true_eq, decide_eq_false_iff_not] at hp31
        have hstep := dedup_no hc31
        refine W.skip ?_
        refine blockF_nor ?_
        refine thenF_nor ?_
        refine W.region (by rfl) ?_
        refine L.val rfl (op_add (c := ((k + 1 : Nat) : Int)) rfl s32 rfl (by omega) (by omega)) ?_
        refine L.val rfl (op_move rfl rfl) ?_
        refine L.nil ?_
        refine thenF_nor ?_
        exact ⟨k + 1, ⟨(by (try dsimp only); omega), s4, s5, s30, s31, rfl, (own_at (v := v14_8) s8 (by rw [hstep]; exact hO14_8)), hS13⟩, (by (try dsimp only); omega)⟩
    · have hp15 := hc15
      simp only [Bool.and_eq_true, Bool.or_eq_true, Bool.and_eq_false_iff, Bool.or_eq_false_iff, Bool.not_eq_true', Bool.not_eq_false', decide_eq_true_eq, decide_eq_false_iff_not] at hp15
      refine W.exit ?_
      refine thenF_exit ?_
      refine thenF_exit ?_
      refine blockF_hit ?_
      refine thenF_nor ?_
      refine W.seq ?_
      obtain ⟨A34, c34, hv34, hR34, hcap34⟩ := (hO14_8).form
      have hlen34 := hR34.len
      refine W.region (by rfl) ?_
      refine L.val rfl (op_move rfl ((show _ = v14_8 from s14_8).trans hv34)) ?_
      refine L.val rfl (op_assign rfl rfl) ?_
      refine L.nil ?_
      refine thenF_nor ?_
      refine W.ret ?_
      exact end_ret1 (v := (.slice A34 (dedupN ls12 k).length c34)) rfl rfl ⟨(by have hkl : k = ls12.length := (by omega); have hdd := dedup_sorted vote_lin hso12 hpm12; rw [← hkl] at hdd; unfold asc_f; rw [← hdd]; exact (⟨_, _, _, _, rfl, hcap34, hR34⟩ : SlR _ _ _)), hE⟩

end Go.Proofs.Ytdknjfmjddlphaa
