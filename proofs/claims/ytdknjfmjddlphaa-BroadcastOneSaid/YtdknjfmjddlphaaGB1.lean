/-
  Contracts of functions of the program, each with its walk in the logic of frames. Printed by a program of this session (wip/gen) from the translation.
-/
import Derived.Test.YtdknjfmjddlphaaZd
import Derived.Test.YtdknjfmjddlphaaDefs5
set_option linter.unusedSimpArgs false
set_option linter.unusedVariables false
namespace Go.Proofs.Ytdknjfmjddlphaa
open Go Go.Fk

set_option maxRecDepth 100000 in
theorem slots_ok {m : Int} {parent : Nm} {A_l : Option Addr} {c_l lo_l hi_l : Nat} {l : List Vt} {slot : Int}  {w : World} (hR_l : Rd w lo_l hi_l A_l l) (hl : l.length ≤ 1000000) : Gives Try.prog 92 #[(.int .i64 m), (Enc.val (parent : Nm)), (.slice A_l l.length c_l), (.int .i64 slot)] w fun u w' => SlR w' u (slots_f m parent l slot : List Vt) ∧ Ext w w' := by
  have hE : Ext w w := Ext.refl w
  have hlen_l := hR_l.len
  refine gives_of_W Try.func92 rfl Try.ntmps92 rfl ?_
  refine W.seq ?_
  refine W.region (by rfl) ?_
  refine L.step rfl (op_box (cs := (Enc.cells (parent : Nm))) rfl rfl rfl) ?_
  rintro _ w1 ⟨b1, rfl, hb1, hB1, hx1⟩
  have hE := hE.trans hx1
  have hR_l := hR_l.ext hx1
  refine L.val rfl (op_assign rfl rfl) ?_
  refine L.nil ?_
  refine thenF_nor ?_
  refine W.seq ?_
  refine W.region (by rfl) ?_
  refine L.val rfl (op_assign rfl rfl) ?_
  refine L.nil ?_
  refine thenF_nor ?_
  refine W.seq ?_
  refine W.seq ?_
  refine W.region (by rfl) ?_
  refine L.val rfl (op_move rfl rfl) ?_
  refine L.val rfl (op_len rfl rfl ln25) ?_
  refine L.val rfl (op_move rfl rfl) ?_
  refine L.nil ?_
  refine thenF_nor ?_
  refine W.block ?_
  have S2_hR_l := hR_l
  have S2_hB1 := hB1
  have S2_hE := hE
  have hS2 : Ext w1 w1 := Ext.refl _
  refine W.loopg (γ := Nat) (fun (k : Nat) (f : Fr) (ww : World) => k ≤ l.length ∧ f 0 = (.int .i64 m) ∧ f 3 = (.int .i64 slot) ∧ f 5 = (.pointer (some ⟨b1, 0, none⟩)) ∧ f 8 = (.slice none 0 0) ∧ f 12 = (.slice A_l l.length c_l) ∧ f 13 = (.int .i64 (l.length : Int)) ∧ f 14 = (.int .i64 ((k : Nat) : Int)) ∧ Fk.Own ww w1.heap.size 28 (f 9) ((l.take k).filter (fun x => decide (x.slot = slot))) ∧ Ext w1 ww) (fun (k : Nat) => l.length - k) 0 ⟨(by (try dsimp only); omega), rfl, rfl, rfl, rfl, rfl, rfl, rfl, (own_at (v := .slice none 0 0) rfl (Fk.Own.nil _ _ _)), hS2⟩ ?_
  rintro k f3 w3 ⟨hk, s3_0, s3_3, s3_5, s3_8, s3_12, s3_13, s3_14, hO3_9, hS2⟩
  have hR_l := S2_hR_l.ext hS2
  have hB1 := S2_hB1.ext hS2
  have hE := S2_hE.trans hS2
  obtain ⟨v3_9, s3_9⟩ : ∃ v, f3 9 = v := ⟨_, rfl⟩
  rw [s3_9] at hO3_9
  have hfl := List.length_filter_le (fun x => decide (x.slot = slot)) (l.take k)
  have htl := List.length_take_le' k l
  refine W.seq ?_
  refine W.region (by rfl) ?_
  refine L.val rfl (op_lss rfl s3_14 s3_13) ?_
  refine L.nil ?_
  refine thenF_nor ?_
  refine W.seq ?_
  refine W.cond (t := decide (((k : Nat) : Int) < (l.length : Int))) rfl (fun hc4 => ?_) (fun hc4 => ?_)
  · have hp4 := hc4
    simp only [Bool.and_eq_true, Bool.or_eq_true, Bool.and_eq_false_iff, Bool.or_eq_false_iff, Bool.not_eq_true', Bool.not_eq_false', decide_eq_true_eq, decide_eq_false_iff_not] at hp4
    refine W.skip ?_
    refine thenF_nor ?_
    refine W.seq ?_
    refine W.block ?_
    refine W.seq ?_
    refine W.region (by rfl) ?_
    refine L.val rfl (op_index (k := k) rfl s3_12 s3_14 sl25 (hR_l.getA (get_bang (l := l) (k := k) (by omega))).1 rfl (by omega) rfl) ?_
    refine L.val rfl (op_load (v := (l[k]! : Vt)) rfl rfl ty28 (hR_l.getA (get_bang (l := l) (k := k) (by omega))).2) ?_
    refine L.newvar (v := (Enc.val (l[k]! : Vt))) (cs := (Enc.cells (l[k]! : Vt))) rfl rfl rfl rfl rfl rfl (fun _ => rfl) rfl si28 zs28 (Enc.one _) ?_
    intro b5 w5 hb5 hB5 hx5
    have hbb5_hE := Nat.le_trans hE.size hb5
    have hbb5_hS2 := Nat.le_trans hS2.size hb5
    have hE := hE.trans hx5
    have hS2 := hS2.trans hx5
    have hR_l := hR_l.ext hx5
    have hB1 := hB1.ext hx5
    have hO3_9 := hO3_9.ext hx5
    refine L.nil ?_
    refine thenF_nor ?_
    refine W.seq ?_
    refine W.region (by rfl) ?_
    refine L.val rfl (op_field rfl rfl fo28_1 rfl) ?_
    refine L.val rfl (op_load1 rfl rfl one3 (hB5.cells.one (n := 1) rfl)) ?_
    refine L.val rfl (op_move rfl s3_3) ?_
    refine L.val rfl (op_eql rfl rfl rfl) ?_
    refine L.nil ?_
    refine thenF_nor ?_
    refine W.cond (t := decide (((l[k]!).slot) = slot)) rfl (fun hc6 => ?_) (fun hc6 => ?_)
    · have hp6 := hc6
      simp only [Bool.and_eq_true, Bool.or_eq_true, Bool.and_eq_false_iff, Bool.or_eq_false_iff, Bool.not_eq_true', Bool.not_eq_false', decide_eq_true_eq, decide_eq_false_iff_not] at hp6
      have hstep := filter_yes (l := l) (p := (fun x => decide (x.slot = slot))) (k := k) (by omega) hc6
      refine W.region (by rfl) ?_
      refine L.val rfl (op_move rfl s3_9) ?_
      refine L.val rfl (op_load (v := (l[k]! : Vt)) rfl rfl ty28 hB5.cells) ?_
      refine L.step rfl (op_slice1 (a := (l[k]! : Vt)) rfl rfl sl25 zs28 (by decide)) ?_
      rintro _ w7 ⟨b7, rfl, hb7, hB7, hx7⟩
      have hE := hE.trans hx7
      have hS2 := hS2.trans hx7
      have hR_l := hR_l.ext hx7
      have hB1 := hB1.ext hx7
      have hO3_9 := hO3_9.ext hx7
      have hB5 := hB5.ext hx7
      refine L.step rfl (op_append (a := (l[k]! : Vt)) (ad := ⟨b7, 0, none⟩) rfl rfl rfl sl25 zs28 bt28 hO3_9 hB7.cells (by omega) (by decide) hS2.size) ?_
      rintro v8 w8 ⟨hO8, hg8⟩
      have hS2 := hS2.own hO3_9 hg8
      have hR_l := S2_hR_l.ext hS2
      have hB1 := S2_hB1.ext hS2
      have hE := S2_hE.trans hS2
      refine L.val rfl (op_assign rfl rfl) ?_
      refine L.nil ?_
      refine blockF_nor ?_
      refine thenF_nor ?_
      refine W.region (by rfl) ?_
      refine L.val rfl (op_add (c := ((k + 1 : Nat) : Int)) rfl s3_14 rfl (by omega) (by omega)) ?_
      refine L.val rfl (op_move rfl rfl) ?_
      refine L.nil ?_
      refine thenF_nor ?_
      exact ⟨k + 1, ⟨(by (try dsimp only); omega), s3_0, s3_3, s3_5, s3_8, s3_12, s3_13, rfl, (own_at (v := v8) rfl (by rw [← hstep]; exact hO8)), hS2⟩, (by (try dsimp only); omega)⟩
    · have hp6 := hc6
      simp only [Bool.and_eq_true, Bool.or_eq_true, Bool.and_eq_false_iff, Bool.or_eq_false_iff, Bool.not_eq_true', Bool.not_eq_false', decide_eq_true_eq, decide_eq_false_iff_not] at hp6
      have hstep := filter_no (l := l) (p := (fun x => decide (x.slot = slot))) (k := k) (by omega) hc6
      refine W.skip ?_
      refine blockF_nor ?_
      refine thenF_nor ?_
      refine W.region (by rfl) ?_
      refine L.val rfl (op_add (c := ((k + 1 : Nat) : Int)) rfl s3_14 rfl (by omega) (by omega)) ?_
      refine L.val rfl (op_move rfl rfl) ?_
      refine L.nil ?_
      refine thenF_nor ?_
      exact ⟨k + 1, ⟨(by (try dsimp only); omega), s3_0, s3_3, s3_5, s3_8, s3_12, s3_13, rfl, (own_at (v := v3_9) s3_9 (by rw [← hstep]; exact hO3_9)), hS2⟩, (by (try dsimp only); omega)⟩
  · have hp4 := hc4
    simp only [Bool.and_eq_true, Bool.or_eq_true, Bool.and_eq_false_iff, Bool.or_eq_false_iff, Bool.not_eq_true', Bool.not_eq_false', decide_eq_true_eq, decide_eq_false_iff_not] at hp4
    have hkl : k = l.length := by omega
    rw [hkl, List.take_length] at hO3_9
    have hfl2 := List.length_filter_le (fun x => decide (x.slot = slot)) l
    refine W.exit ?_
    refine thenF_exit ?_
    refine thenF_exit ?_
    refine blockF_hit ?_
    refine thenF_nor ?_
    refine W.seq ?_
    obtain ⟨A9, c9, hv9, hR9, hcap9⟩ := (hO3_9).form
    have hlen9 := hR9.len
    refine W.region (by rfl) ?_
    refine L.val rfl (op_move rfl s3_0) ?_
    refine L.val rfl (op_load (v := (parent : Nm)) rfl s3_5 ty24 hB1.cells) ?_
    refine L.val rfl (op_move rfl ((show _ = v3_9 from s3_9).trans hv9)) ?_
    refine L.step rfl (OpS.call (op_call rfl (argsC rfl (argsC rfl (argsC rfl argsN))) Try.func18 rfl rfl) (Accepted_ok hR9 (by first | omega | (simp only [List.length_drop, List.length_take, List.length_append, List.length_cons, List.length_nil] at *; omega)))) ?_
    rintro _ w10 ⟨⟨A10, c10, lo10, hi10, rfl, hcap10, hR10⟩, hx10⟩
    have hE := hE.trans hx10
    have hS2 := hS2.trans hx10
    have hR_l := hR_l.ext hx10
    have hB1 := hB1.ext hx10
    have hO3_9 := hO3_9.ext hx10
    have hR9 := hR9.ext hx10
    have hlen10 := hR10.len
    refine L.val rfl (op_assign rfl rfl) ?_
    refine L.nil ?_
    refine thenF_nor ?_
    refine W.ret ?_
    exact end_ret1 (v := (.slice A10 (accepted_f m parent (l.filter (fun x => decide (x.slot = slot)))).length c10)) rfl rfl ⟨(⟨_, _, _, _, rfl, hcap10, hR10⟩ : SlR _ _ _), hE⟩

set_option maxRecDepth 100000 in
theorem signers_ok {m : Int} {parent : Nm} {A_l : Option Addr} {c_l lo_l hi_l : Nat} {l : List Vt} {slot : Int} {kind : Int}  {w : World} (hR_l : Rd w lo_l hi_l A_l l) (hl : l.length ≤ 1000000) : Gives Try.prog 64 #[(.int .i64 m), (Enc.val (parent : Nm)), (.slice A_l l.length c_l), (.int .i64 slot), (.int .i64 kind)] w fun u w' => (∃ b, u = .map (some b) ∧ w.heap.size ≤ b ∧ Mp w' b (signers_f m parent l slot kind : List (Nm × Int))) ∧ Ext w w' := by
  have hE : Ext w w := Ext.refl w
  have hlen_l := hR_l.len
  refine gives_of_W Try.func64 rfl Try.ntmps64 rfl ?_
  have hsl := slots_len m parent l slot
  refine W.seq ?_
  refine W.region (by rfl) ?_
  refine L.step rfl (op_box (cs := (Enc.cells (parent : Nm))) rfl rfl rfl) ?_
  rintro _ w1 ⟨b1, rfl, hb1, hB1, hx1⟩
  have hE := hE.trans hx1
  have hR_l := hR_l.ext hx1
  refine L.val rfl (op_assign rfl rfl) ?_
  refine L.nil ?_
  refine thenF_nor ?_
  refine W.seq ?_
  refine W.region (by rfl) ?_
  refine L.step rfl (op_makeMap Nm rfl) ?_
  rintro _ w2 ⟨b2, rfl, hb2, hM2, hx2⟩
  have hbb2_hE := Nat.le_trans hE.size hb2
  have hE := hE.trans hx2
  have hR_l := hR_l.ext hx2
  have hB1 := hB1.ext hx2
  refine L.val rfl (op_assign rfl rfl) ?_
  refine L.nil ?_
  refine thenF_nor ?_
  refine W.seq ?_
  refine W.seq ?_
  refine W.region (by rfl) ?_
  refine L.val rfl (op_move rfl rfl) ?_
  refine L.val rfl (op_load (v := (parent : Nm)) rfl rfl ty24 hB1.cells) ?_
  refine L.val rfl (op_move rfl rfl) ?_
  refine L.val rfl (op_move rfl rfl) ?_
  refine L.step rfl (OpS.call (op_call rfl (argsC rfl (argsC rfl (argsC rfl (argsC rfl argsN)))) Try.func92 rfl rfl) (slots_ok hR_l (by first | omega | (simp only [List.length_drop, List.length_take, List.length_append, List.length_cons, List.length_nil] at *; omega)))) ?_
  rintro _ w3 ⟨⟨A3, c3, lo3, hi3, rfl, hcap3, hR3⟩, hx3⟩
  have hE := hE.trans hx3
  have hR_l := hR_l.ext hx3
  have hB1 := hB1.ext hx3
  have hM2 := hM2.ext hx3
  have hlen3 := hR3.len
  refine L.val rfl (op_len rfl rfl ln25) ?_
  refine L.val rfl (op_move rfl rfl) ?_
  refine L.nil ?_
  refine thenF_nor ?_
  refine W.block ?_
  have S4_hR_l := hR_l
  have S4_hB1 := hB1
  have S4_hM2 := hM2
  have S4_hR3 := hR3
  have S4_hE := hE
  have hS4 : Ext w3 w3 := Ext.refl _
  refine W.loopg (γ := Nat) (fun (k : Nat) (f : Fr) (ww : World) => k ≤ (slots_f m parent l slot).length ∧ f 4 = (.int .i64 kind) ∧ f 10 = (.map none) ∧ f 19 = (.slice A3 (slots_f m parent l slot).length c3) ∧ f 20 = (.int .i64 ((slots_f m parent l slot).length : Int)) ∧ f 21 = (.int .i64 ((k : Nat) : Int)) ∧ f 11 = (.map (some b2)) ∧ Mp ww b2 (sgOf kind ((slots_f m parent l slot).take k) : List (Nm × Int)) ∧ w3.grownBy ww (some b2)) (fun (k : Nat) => (slots_f m parent l slot).length - k) 0 ⟨(by (try dsimp only); omega), rfl, rfl, rfl, rfl, rfl, rfl, hM2, (grown_refl _ _)⟩ ?_
  rintro k f5 w5 ⟨hk, s5_4, s5_10, s5_19, s5_20, s5_21, s5_11, hM5_11, hT5⟩
  have hnc5 := S4_hM2.nc
  have hR_l := S4_hR_l.farM hnc5 hT5
  have hB1 := S4_hB1.farM hnc5 hT5
  have hR3 := S4_hR3.farM hnc5 hT5
  have hE := S4_hE.grown hT5 (by intro k hk; cases hk; exact hbb2_hE)
  refine W.seq ?_
  refine W.region (by rfl) ?_
  refine L.val rfl (op_lss rfl s5_21 s5_20) ?_
  refine L.nil ?_
  refine thenF_nor ?_
  refine W.seq ?_
  refine W.cond (t := decide (((k : Nat) : Int) < ((slots_f m parent l slot).length : Int))) rfl (fun hc6 => ?_) (fun hc6 => ?_)
  · have hp6 := hc6
    simp only [Bool.and_eq_true, Bool.or_eq_true, Bool.and_eq_false_iff, Bool.or_eq_false_iff, Bool.not_eq_true', Bool.not_eq_false', decide_eq_true_eq, decide_eq_false_iff_not] at hp6
    have hsb := slots_sig m parent l slot k (by omega)
    refine W.skip ?_
    refine thenF_nor ?_
    refine W.seq ?_
    refine W.block ?_
    refine W.seq ?_
    refine W.region (by rfl) ?_
    refine L.val rfl (op_index (k := k) rfl s5_19 s5_21 sl25 (hR3.getA (get_bang (l := slots_f m parent l slot) (k := k) (by omega))).1 rfl (by omega) rfl) ?_
    refine L.val rfl (op_load (v := (slots_f m parent l slot)[k]!) rfl rfl ty28 (hR3.getA (get_bang (l := slots_f m parent l slot) (k := k) (by omega))).2) ?_
    refine L.newvar (v := (Enc.val ((slots_f m parent l slot)[k]!))) (cs := (Enc.cells (slots_f m parent l slot)[k]!)) rfl rfl rfl rfl rfl rfl (fun _ => rfl) rfl si28 zs28 (Enc.one _) ?_
    intro b7 w7 hb7 hB7 hx7
    have hbb7_hE := Nat.le_trans hE.size hb7
    have hbb7_hT5 := Nat.le_trans hT5.size hb7
    have hE := hE.trans hx7
    have hT5 := grown_ext hT5 hx7
    have hR_l := hR_l.ext hx7
    have hB1 := hB1.ext hx7
    have hR3 := hR3.ext hx7
    have hM5_11 := hM5_11.ext hx7
    refine L.nil ?_
    refine thenF_nor ?_
    refine W.seq ?_
    refine W.region (by rfl) ?_
    refine L.val rfl (op_field rfl rfl fo28_0 rfl) ?_
    refine L.val rfl (op_load1 rfl rfl one3 (hB7.cells.one (n := 0) rfl)) ?_
    refine L.val rfl (op_move rfl s5_4) ?_
    refine L.val rfl (op_eql rfl rfl rfl) ?_
    refine L.nil ?_
    refine thenF_nor ?_
    refine W.cond (t := decide ((((slots_f m parent l slot)[k]!).kind) = kind)) rfl (fun hc8 => ?_) (fun hc8 => ?_)
    · have hp8 := hc8
      simp only [Bool.and_eq_true, Bool.or_eq_true, Bool.and_eq_false_iff, Bool.or_eq_false_iff, Bool.not_eq_true', Bool.not_eq_false', decide_eq_true_eq, decide_eq_false_iff_not] at hp8
      have hstep := sg_yes (kind := kind) (A := (slots_f m parent l slot)) (k := k) (by omega) hc8
      have hnc9 := hM5_11.nc
      refine W.drawU (me := 8) (ex := 9) (es := 10) (l := sgOf kind ((slots_f m parent l slot).take k)) (a := (((slots_f m parent l slot)[k]!).value : Nm)) (v := ior (mget (sgOf kind ((slots_f m parent l slot).take k)) (((slots_f m parent l slot)[k]!).value)) (ishl 1 (((slots_f m parent l slot)[k]!).signer))) mp76 [(.map (some b2)), (.pointer (some ⟨b7, 14, none⟩)), (Enc.val (((slots_f m parent l slot)[k]!).value)), (.int .i64 (mget (sgOf kind ((slots_f m parent l slot).take k)) (((slots_f m parent l slot)[k]!).value))), (.pointer (some ⟨b7, 4, none⟩)), (.int .i64 (((slots_f m parent l slot)[k]!).signer)), (.int .i64 (ishl 1 (((slots_f m parent l slot)[k]!).signer))), (.int .i64 (ior (mget (sgOf kind ((slots_f m parent l slot).take k)) (((slots_f m parent l slot)[k]!).value)) (ishl 1 (((slots_f m parent l slot)[k]!).signer)))), undef, undef, undef] mixed (by rfl) hM5_11 ?_ rfl rfl rfl rfl rfl rfl rfl rfl rfl rfl rfl rfl (fun _ ho hd => ⟨hd 0 rfl rfl, hd 2 rfl rfl⟩) (fun _ ho hd => ⟨hd 0 rfl rfl, hd 7 rfl rfl⟩) ?_
      · refine VObls.cons ?_ (VObls.cons ?_ (VObls.cons ?_ (VObls.cons ?_ (VObls.cons ?_ (VObls.cons ?_ (VObls.cons ?_ (VObls.cons ?_ (VObls.cons (fun h => nomatch h) (VObls.cons (fun h => nomatch h) (VObls.cons (fun h => nomatch h) VObls.nil))))))))))
        · intro _ f10 w10 hg10 ho10 hd10 hk10
          have d10_s11 : f10 11 = (.map (some b2)) := (ho10 11 rfl).trans s5_11
          exact ⟨rfl, (op_move rfl d10_s11), rfl⟩
        · intro _ f11 w11 hg11 ho11 hd11 hk11
          have d11_s13 : f11 13 = (.pointer (some ⟨b7, 0, none⟩)) := ho11 13 rfl
          exact ⟨rfl, (op_field rfl d11_s13 fo28_7 rfl), rfl⟩
        · intro _ f12 w12 hg12 ho12 hd12 hk12
          have d12_1 : f12 30 = (.pointer (some ⟨b7, 14, none⟩)) := hd12 1 rfl rfl
          have hR_l := hR_l.farM hnc9 hg12; have hB1 := hB1.farM hnc9 hg12; have hR3 := hR3.farM hnc9 hg12; have hB7 := hB7.farM hnc9 hg12
          exact ⟨rfl, (op_load (v := (((slots_f m parent l slot)[k]!).value : Nm)) rfl d12_1 ty24 (sub_nm 14 hB7.cells rfl)), rfl⟩
        · intro _ f13 w13 hg13 ho13 hd13 hk13
          have d13_0 : f13 29 = (.map (some b2)) := hd13 0 rfl rfl
          have d13_2 : f13 31 = (Enc.val (((slots_f m parent l slot)[k]!).value)) := hd13 2 rfl rfl
          obtain ⟨lq, hQ, hq⟩ := mu_read (a := (((slots_f m parent l slot)[k]!).value : Nm)) hM5_11.keys hk13 rfl
          exact ⟨rfl, op_lookupQ (a := (((slots_f m parent l slot)[k]!).value : Nm)) mp76 rfl d13_0 d13_2 hQ hq, rfl⟩
        · intro _ f14 w14 hg14 ho14 hd14 hk14
          have d14_s13 : f14 13 = (.pointer (some ⟨b7, 0, none⟩)) := ho14 13 rfl
          exact ⟨rfl, (op_field rfl d14_s13 fo28_4 rfl), rfl⟩
        · intro _ f15 w15 hg15 ho15 hd15 hk15
          have d15_4 : f15 33 = (.pointer (some ⟨b7, 4, none⟩)) := hd15 4 rfl rfl
          have hR_l := hR_l.farM hnc9 hg15; have hB1 := hB1.farM hnc9 hg15; have hR3 := hR3.farM hnc9 hg15; have hB7 := hB7.farM hnc9 hg15
          exact ⟨rfl, (op_load1 rfl d15_4 one3 (hB7.cells.one (n := 4) rfl)), rfl⟩
        · intro _ f16 w16 hg16 ho16 hd16 hk16
          have d16_5 : f16 34 = (.int .i64 (((slots_f m parent l slot)[k]!).signer)) := hd16 5 rfl rfl
          skip
          exact ⟨rfl, (op_shl rfl rfl d16_5 (by omega) (by omega)), rfl⟩
        · intro _ f17 w17 hg17 ho17 hd17 hk17
          have d17_3 : f17 32 = (.int .i64 (mget (sgOf kind ((slots_f m parent l slot).take k)) (((slots_f m parent l slot)[k]!).value))) := hd17 3 rfl rfl
          have d17_6 : f17 35 = (.int .i64 (ishl 1 (((slots_f m parent l slot)[k]!).signer))) := hd17 6 rfl rfl
          exact ⟨rfl, (op_ior rfl d17_3 d17_6), rfl⟩
      intro f18 w18 hg18 ho18 hr18 hM18
      have s4 : f18 4 = (.int .i64 kind) := (ho18 4 rfl).trans s5_4
      have s10 : f18 10 = (.map none) := (ho18 10 rfl).trans s5_10
      have s11 : f18 11 = (.map (some b2)) := (ho18 11 rfl).trans s5_11
      have s13 : f18 13 = (.pointer (some ⟨b7, 0, none⟩)) := ho18 13 rfl
      have s19 : f18 19 = (.slice A3 (slots_f m parent l slot).length c3) := (ho18 19 rfl).trans s5_19
      have s20 : f18 20 = (.int .i64 ((slots_f m parent l slot).length : Int)) := (ho18 20 rfl).trans s5_20
      have s21 : f18 21 = (.int .i64 ((k : Nat) : Int)) := (ho18 21 rfl).trans s5_21
      have s22 : f18 22 = (.bool (decide (((k : Nat) : Int) < ((slots_f m parent l slot).length : Int)))) := ho18 22 rfl
      have s28 : f18 28 = (.bool (decide ((((slots_f m parent l slot)[k]!).kind) = kind))) := ho18 28 rfl
      have hnc18 := hM5_11.nc
      have hE := hE.grown hg18 (by intro k hk; cases hk; exact hbb2_hE)
      have hT5 := grown_trans hT5 hg18
      have hR_l := hR_l.farM hnc18 hg18
      have hB1 := hB1.farM hnc18 hg18
      have hR3 := hR3.farM hnc18 hg18
      have hB7 := hB7.farM hnc18 hg18
      refine blockF_nor ?_
      refine thenF_nor ?_
      refine W.region (by rfl) ?_
      refine L.val rfl (op_add (c := ((k + 1 : Nat) : Int)) rfl s21 rfl (by omega) (by omega)) ?_
      refine L.val rfl (op_move rfl rfl) ?_
      refine L.nil ?_
      refine thenF_nor ?_
      exact ⟨k + 1, ⟨(by (try dsimp only); omega), s4, s10, s19, s20, rfl, s11, (by rw [← hstep]; exact hM18), hT5⟩, (by (try dsimp only); omega)⟩
    · have hp8 := hc8
      simp only [Bool.and_eq_true, Bool.or_eq_true, Bool.and_eq_false_iff, Bool.or_eq_false_iff, Bool.not_eq_true', Bool.not_eq_false', decide_eq_true_eq, decide_eq_false_iff_not] at hp8
      have hstep := sg_no (kind := kind) (A := (slots_f m parent l slot)) (k := k) (by omega) hc8
      refine W.skip ?_
      refine blockF_nor ?_
      refine thenF_nor ?_
      refine W.region (by rfl) ?_
      refine L.val rfl (op_add (c := ((k + 1 : Nat) : Int)) rfl s5_21 rfl (by omega) (by omega)) ?_
      refine L.val rfl (op_move rfl rfl) ?_
      refine L.nil ?_
      refine thenF_nor ?_
      exact ⟨k + 1, ⟨(by (try dsimp only); omega), s5_4, s5_10, s5_19, s5_20, rfl, s5_11, (by rw [← hstep]; exact hM5_11), hT5⟩, (by (try dsimp only); omega)⟩
  · have hp6 := hc6
    simp only [Bool.and_eq_true, Bool.or_eq_true, Bool.and_eq_false_iff, Bool.or_eq_false_iff, Bool.not_eq_true', Bool.not_eq_false', decide_eq_true_eq, decide_eq_false_iff_not] at hp6
    have hkl : k = (slots_f m parent l slot).length := by omega
    rw [hkl, List.take_length] at hM5_11
    refine W.exit ?_
    refine thenF_exit ?_
    refine thenF_exit ?_
    refine blockF_hit ?_
    refine thenF_nor ?_
    refine W.seq ?_
    refine W.region (by rfl) ?_
    refine L.val rfl (op_move rfl s5_11) ?_
    refine L.val rfl (op_assign rfl rfl) ?_
    refine L.nil ?_
    refine thenF_nor ?_
    refine W.ret ?_
    exact end_ret1 (v := (.map (some b2))) rfl rfl ⟨⟨_, rfl, hbb2_hE, hM5_11⟩, hE⟩

set_option maxRecDepth 100000 in
theorem ascending151_ok {i : Nat} {j : Nat} {q_l : Addr} {A_l : Option Addr} {c_l lo_l hi_l : Nat} {l : List Nm}  {w : World} (hq_l : Cells w q_l [.slice A_l l.length c_l]) (hR_l : Rd w lo_l hi_l A_l l) (hi : i < l.length) (hj : j < l.length) : Gives Try.prog 91 #[(.int .i64 ((i : Nat) : Int)), (.int .i64 ((j : Nat) : Int)), (.pointer (some q_l))] w fun u w' => u = (.bool (hashLess_f l[i]! l[j]!)) ∧ Ext w w' := by
  have hE : Ext w w := Ext.refl w
  have hlen_l := hR_l.len
  refine gives_of_W Try.func91 rfl Try.ntmps91 rfl ?_
  refine W.seq ?_
  refine W.region (by rfl) ?_
  refine L.val (v := (.bool false)) rfl (op_assign rfl rfl) ?_
  refine L.nil ?_
  refine thenF_nor ?_
  refine W.seq ?_
  refine W.drawS [Sp.eq (.slice A_l l.length c_l), Sp.eq (.int .i64 ((i : Nat) : Int)), Sp.eq (.pointer (some ((adr A_l).add (i * 8)))), Sp.eq (Enc.val (l[i]! : Nm)), Sp.eq (.slice A_l l.length c_l), Sp.eq (.int .i64 ((j : Nat) : Int)), Sp.eq (.pointer (some ((adr A_l).add (j * 8)))), Sp.eq (Enc.val (l[j]! : Nm)), Sp.eq (.bool (hashLess_f (l[i]!) (l[j]!))), Sp.eq (.bool (hashLess_f (l[i]!) (l[j]!)))] mixed (by rfl) (Obls.cons ?_ (Obls.cons ?_ (Obls.cons ?_ (Obls.cons ?_ (Obls.cons ?_ (Obls.cons ?_ (Obls.cons ?_ (Obls.cons ?_ (Obls.cons ?_ (Obls.cons ?_ Obls.nil)))))))))) ?_
  · intro f2 w2 hx2 ho2 hd2
    have d2_s2 : f2 2 = (.pointer (some q_l)) := ho2 2 rfl
    have hq_l := hq_l.ext hx2
    have hR_l := hR_l.ext hx2
    exact D.val rfl (op_load1 rfl d2_s2 one40 (hq_l.one (n := 0) rfl))
  · intro f3 w3 hx3 ho3 hd3
    have d3_s0 : f3 0 = (.int .i64 ((i : Nat) : Int)) := ho3 0 rfl
    exact D.val rfl (op_move rfl d3_s0)
  · intro f4 w4 hx4 ho4 hd4
    have d4_0 : f4 6 = (.slice A_l l.length c_l) := hd4 0 rfl
    have d4_1 : f4 7 = (.int .i64 ((i : Nat) : Int)) := hd4 1 rfl
    have hq_l := hq_l.ext hx4
    have hR_l := hR_l.ext hx4
    skip
    exact D.val rfl (op_index (k := i) rfl d4_0 d4_1 sl40 (hR_l.getA (get_bang (l := l) (k := i) (by omega))).1 rfl (by omega) rfl)
  · intro f5 w5 hx5 ho5 hd5
    have d5_2 : f5 8 = (.pointer (some ((adr A_l).add (i * 8)))) := hd5 2 rfl
    have hq_l := hq_l.ext hx5
    have hR_l := hR_l.ext hx5
    skip
    exact D.val rfl (op_load (v := (l[i]! : Nm)) rfl d5_2 ty24 (hR_l.getA (get_bang (l := l) (k := i) (by omega))).2)
  · intro f6 w6 hx6 ho6 hd6
    have d6_s2 : f6 2 = (.pointer (some q_l)) := ho6 2 rfl
    have hq_l := hq_l.ext hx6
    have hR_l := hR_l.ext hx6
    exact D.val rfl (op_load1 rfl d6_s2 one40 (hq_l.one (n := 0) rfl))
  · intro f7 w7 hx7 ho7 hd7
    have d7_s1 : f7 1 = (.int .i64 ((j : Nat) : Int)) := ho7 1 rfl
    exact D.val rfl (op_move rfl d7_s1)
  · intro f8 w8 hx8 ho8 hd8
    have d8_4 : f8 10 = (.slice A_l l.length c_l) := hd8 4 rfl
    have d8_5 : f8 11 = (.int .i64 ((j : Nat) : Int)) := hd8 5 rfl
    have hq_l := hq_l.ext hx8
    have hR_l := hR_l.ext hx8
    skip
    exact D.val rfl (op_index (k := j) rfl d8_4 d8_5 sl40 (hR_l.getA (get_bang (l := l) (k := j) (by omega))).1 rfl (by omega) rfl)
  · intro f9 w9 hx9 ho9 hd9
    have d9_6 : f9 12 = (.pointer (some ((adr A_l).add (j * 8)))) := hd9 6 rfl
    have hq_l := hq_l.ext hx9
    have hR_l := hR_l.ext hx9
    skip
    exact D.val rfl (op_load (v := (l[j]! : Nm)) rfl d9_6 ty24 (hR_l.getA (get_bang (l := l) (k := j) (by omega))).2)
  · intro f10 w10 hx10 ho10 hd10
    have d10_3 : f10 9 = (Enc.val (l[i]! : Nm)) := hd10 3 rfl
    have d10_7 : f10 13 = (Enc.val (l[j]! : Nm)) := hd10 7 rfl
    have hq_l := hq_l.ext hx10
    have hR_l := hR_l.ext hx10
    exact D.call (R := (Sp.eq (.bool (hashLess_f (l[i]!) (l[j]!)))).p) rfl (OpS.call (op_call rfl (argsC d10_3 (argsC d10_7 argsN)) Try.func34 rfl rfl) hashLess_ok)
  · intro f11 w11 hx11 ho11 hd11
    have d11_8 : f11 14 = (.bool (hashLess_f (l[i]!) (l[j]!))) := hd11 8 rfl
    exact D.val rfl (op_assign rfl d11_8)
  intro f12 w12 hx12 ho12 hr12
  have s0 : f12 0 = (.int .i64 ((i : Nat) : Int)) := ho12 0 rfl
  have s1 : f12 1 = (.int .i64 ((j : Nat) : Int)) := ho12 1 rfl
  have s2 : f12 2 = (.pointer (some q_l)) := ho12 2 rfl
  have s5 : f12 5 = (.bool (hashLess_f (l[i]!) (l[j]!))) := hr12 9 (by decide)
  have hE := hE.trans hx12
  have hq_l := hq_l.ext hx12
  have hR_l := hR_l.ext hx12
  refine thenF_nor ?_
  refine W.ret ?_
  exact end_ret1 (v := (.bool (hashLess_f (l[i]!) (l[j]!)))) rfl s5 ⟨rfl, hE⟩

set_option maxRecDepth 100000 in
set_option maxHeartbeats 4000000 in
theorem ascending15_ok {b_b : Nat} {b : List (Nm × Int)} {n : Int}  {w : World} (hM_b : Mp w b_b b) (hl : b.length ≤ 1000000) : Gives Try.prog 63 #[(.map (some b_b)), (.int .i64 n)] w fun u w' => SlR w' u (ascending15_f b n : List Nm) ∧ Ext w w' := by
  have hE : Ext w w := Ext.refl w
  refine gives_of_W Try.func63 rfl Try.ntmps63 rfl ?_
  refine W.seq ?_
  refine W.region (by rfl) ?_
  refine L.val rfl (op_assign rfl rfl) ?_
  refine L.nil ?_
  refine thenF_nor ?_
  refine W.seq ?_
  have S1_hM_b := hM_b
  have S1_hE := hE
  have hS1 : Ext w w := Ext.refl _
  refine W.region (by rfl) ?_
  refine L.step rfl (op_alloc (z := (.slice none 0 0)) (cs := [(.slice none 0 0)]) rfl (by kernel_rfl) rfl) ?_
  rintro _ w2 ⟨b2, rfl, hb2, hB2, hx2⟩
  have hbb2_hE := Nat.le_trans hE.size hb2
  have hbb2_hS1 := Nat.le_trans hS1.size hb2
  have hE := hE.trans hx2
  have hS1 := hS1.trans hx2
  have hM_b := hM_b.ext hx2
  refine L.nil ?_
  refine thenF_nor ?_
  refine W.seq ?_
  refine W.seq ?_
  refine W.region (by rfl) ?_
  refine L.val rfl (op_move rfl rfl) ?_
  refine L.step rfl (op_range rfl Try.underlying76 rfl hM_b) ?_
  rintro _ w3 ⟨b3, rfl, hb3, hG3, hx3⟩
  have hbb3_hE := Nat.le_trans hE.size hb3
  have hbb3_hS1 := Nat.le_trans hS1.size hb3
  have hE := hE.trans hx3
  have hS1 := hS1.trans hx3
  have hM_b := hM_b.ext hx3
  have hB2 := hB2.ext hx3
  refine L.nil ?_
  refine thenF_nor ?_
  refine W.block ?_
  refine W.loopg (γ := List (Nm × Int)) (fun (done : List (Nm × Int)) (f : Fr) (ww : World) => f 1 = (.int .i64 n) ∧ f 4 = (.slice none 0 0) ∧ f 5 = (.pointer (some ⟨b2, 0, none⟩)) ∧ (∃ vv, Box ww b2 40 [vv] ∧ Fk.Own ww (b2 + 1) 24 vv ((done.filter (ascOut n)).map Prod.fst)) ∧ f 9 = (.pointer (some ⟨b3, 0, none⟩)) ∧ Rg ww b_b b3 b done ∧ Ext w ww) (fun (done : List (Nm × Int)) => b.length - done.length) ([] : List (Nm × Int)) ⟨rfl, rfl, rfl, ⟨_, hB2, Fk.Own.nil _ _ _⟩, rfl, hG3, hS1⟩ ?_
  rintro done f4 w4 ⟨s4_1, s4_4, s4_5, hM4_5, s4_9, hG4_9, hS1⟩
  have hM_b := S1_hM_b.ext hS1
  have hE := S1_hE.trans hS1
  obtain ⟨v4_5, hB4_5, hO4_5⟩ := hM4_5
  have hfl := List.length_filter_le (ascOut n) done
  have hml : ((done.filter (ascOut n)).map Prod.fst).length = (done.filter (ascOut n)).length := List.length_map _
  have hgl0 := hG4_9.len
  refine W.seq ?_
  refine W.region (by rfl) ?_
  refine L.step rfl (op_nextE rfl s4_9 hG4_9) ?_
  rintro _ w5 (⟨rfl, hpm5, hx5⟩ | ⟨p5, hpl5, hpn5, rfl, hG5, hg5, hsz5⟩)
  · have hE := hE.trans hx5
    have hS1 := hS1.trans hx5
    have hM_b := hM_b.ext hx5
    have hG4_9 := hG4_9.ext hx5
    have hB4_5 := hB4_5.ext hx5
    have hO4_5 := hO4_5.ext hx5
    refine L.val (v := (.bool false)) rfl (op_extract rfl rfl rfl) ?_
    refine L.nil ?_
    refine thenF_nor ?_
    refine W.seq ?_
    refine W.cond (t := false) rfl (fun h => nomatch h) (fun _ => ?_)
    refine W.exit ?_
    refine thenF_exit ?_
    refine thenF_exit ?_
    refine blockF_hit ?_
    refine thenF_nor ?_
    refine W.seq ?_
    obtain ⟨A6, c6, hv6, hR6, hcap6⟩ := (hO4_5).form
    have hlen6 := hR6.len
    have hBs6 := hB4_5
    rw [hv6] at hBs6
    refine W.region (by rfl) ?_
    refine L.val rfl (op_load1 rfl s4_5 one40 (hBs6.cells.one (n := 0) rfl)) ?_
    refine L.val rfl (op_iface rfl rfl (by kernel_rfl)) ?_
    refine L.val rfl (op_func rfl (argsC s4_5 argsN)) ?_
    have hOs6 := hO4_5
    rw [hv6] at hOs6
    refine L.step rfl (OpS.call (op_call rfl (argsC rfl (argsC rfl argsN)) Try.func60 rfl rfl) (sortSlice_ok st40 nm_lin.swo hOs6 (by omega) (fun blk eA => by subst eA; exact lessOk_box Try.func91 rfl rfl ascending151_ok hBs6 (by have hh := hOs6.lt blk rfl; omega) hlen6))) ?_
    rintro _ w7 ⟨rfl, ls7, hpm7, hsl7, hso7, hR7, hg7⟩
    have hBz7 := hBs6.far hg7 (hOs6.ne' (Nat.lt_succ_self _))
    have hS1 := hS1.own (hOs6.lower (by omega)) hg7
    rw [← hsl7] at hBz7
    have hlen7 := hR7.len
    have hM_b := S1_hM_b.ext hS1
    have hE := S1_hE.trans hS1
    refine L.nil ?_
    refine thenF_nor ?_
    refine W.seq ?_
    refine W.region (by rfl) ?_
    refine L.val rfl (op_load1 rfl s4_5 one40 (hBz7.cells.one (n := 0) rfl)) ?_
    refine L.val rfl (op_assign rfl rfl) ?_
    refine L.nil ?_
    refine thenF_nor ?_
    refine W.ret ?_
    exact end_ret1 (v := (.slice A6 ls7.length c6)) rfl rfl ⟨(by have hdd := asc15_eq (n := n) hM_b.keys hpm5 hpm7 hso7; rw [← hdd]; exact (⟨_, _, _, _, rfl, (Nat.le_trans (Nat.le_of_eq hsl7) hcap6), hR7⟩ : SlR _ _ _)), hE⟩
  · have hnc5 := hG4_9.nc
    have hE := hE.grown hg5 (by intro k hk; cases hk; exact hbb3_hE)
    have hS1 := hS1.grown hg5 (by intro k hk; cases hk; exact hbb3_hS1)
    have hM_b := hM_b.farG hG4_9 hg5
    have hB4_5 := hB4_5.farM hnc5 hg5
    have hO4_5 := hO4_5.farM hnc5 hg5
    refine L.val (v := (.bool true)) rfl (op_extract rfl rfl rfl) ?_
    refine L.nil ?_
    refine thenF_nor ?_
    refine W.seq ?_
    refine W.cond (t := true) rfl (fun _ => ?_) (fun h => nomatch h)
    refine W.skip ?_
    refine thenF_nor ?_
    refine W.block ?_
    refine W.seq ?_
    refine W.region (by rfl) ?_
    refine L.val rfl (op_entry rfl s4_9 hG5) ?_
    refine L.val rfl (op_extract rfl rfl rfl) ?_
    refine L.val rfl (op_extract rfl rfl rfl) ?_
    refine L.newvar (v := (Enc.val (p5.1 : Nm))) (cs := (Enc.cells (p5.1 : Nm))) rfl rfl rfl rfl rfl rfl (fun _ => rfl) rfl si24 zs24 (Enc.one _) ?_
    intro b8 w8 hb8 hB8 hx8
    have hbb8_hE := Nat.le_trans hE.size hb8
    have hbb8_hS1 := Nat.le_trans hS1.size hb8
    have hE := hE.trans hx8
    have hS1 := hS1.trans hx8
    have hM_b := hM_b.ext hx8
    have hB4_5 := hB4_5.ext hx8
    have hO4_5 := hO4_5.ext hx8
    have hG5 := hG5.ext hx8
    refine L.val rfl (op_assign rfl rfl) ?_
    refine L.nil ?_
    refine thenF_nor ?_
    refine W.seq ?_
    refine W.region (by rfl) ?_
    refine L.val rfl (op_load (v := (p5.1 : Nm)) rfl rfl ty24 hB8.cells) ?_
    refine L.val rfl (op_build (v := Enc.val (Nm.zero : Nm)) (cs := Enc.cells (Nm.zero : Nm)) rfl partsN (by kernel_rfl) rfl) ?_
    refine L.val rfl (op_neqe (a := (p5.1 : Nm)) (b := (Nm.zero : Nm)) rfl rfl rfl eq24 (fun _ => ⟨_, rfl⟩) Try.eqGuardType24) ?_
    refine L.val rfl (op_move rfl rfl) ?_
    refine L.guardv (v := (.int .i64 p5.2)) (wanted_yes rfl rfl rfl) (fun hg => (op_move rfl rfl)) ?_
    refine L.guardc (v := (.int .i64 (size_f p5.2))) (wanted_yes rfl rfl rfl) (fun hg => (OpS.call (op_call rfl (argsC ((show _ = vif _ (.int .i64 p5.2) from rfl).trans (vif_t hg).symm) argsN) Try.func29 rfl rfl) Size_ok)) ?_
    intro w9 hx9
    have hE := hE.trans hx9
    have hS1 := hS1.trans hx9
    have hM_b := hM_b.ext hx9
    have hB4_5 := hB4_5.ext hx9
    have hO4_5 := hO4_5.ext hx9
    have hG5 := hG5.ext hx9
    have hB8 := hB8.ext hx9
    refine L.guardv (v := (.int .i64 n)) (wanted_yes rfl rfl rfl) (fun hg => (op_move rfl s4_1)) ?_
    refine L.guardv (v := (.bool (decide (n ≤ (size_f p5.2))))) (wanted_yes rfl rfl rfl) (fun hg => (op_geq rfl ((show _ = vif _ (.int .i64 (size_f p5.2)) from rfl).trans (vif_t hg).symm) ((show _ = vif _ (.int .i64 n) from rfl).trans (vif_t hg).symm))) ?_
    refine L.val rfl (op_and rfl rfl rfl rfl) ?_
    refine L.nil ?_
    refine thenF_nor ?_
    refine W.cond (t := (!decide (p5.1 = Nm.zero)) && (decide (n ≤ (size_f p5.2)))) rfl (fun hc10 => ?_) (fun hc10 => ?_)
    · have hp10 := hc10
      simp only [Bool.and_eq_true, Bool.or_eq_true, Bool.and_eq_false_iff, Bool.or_eq_false_iff, Bool.not_eq_true', Bool.not_eq_false', decide_eq_true_eq, decide_eq_false_iff_not] at hp10
      have hstep := outs_yes (keep := (ascOut n)) (done := done) (p := p5) hc10
      refine W.region (by rfl) ?_
      refine L.val rfl (op_load1 rfl s4_5 one40 (hB4_5.cells.one (n := 0) rfl)) ?_
      refine L.val rfl (op_load (v := (p5.1 : Nm)) rfl rfl ty24 hB8.cells) ?_
      refine L.step rfl (op_slice1 (a := (p5.1 : Nm)) rfl rfl sl40 zs24 (by decide)) ?_
      rintro _ w11 ⟨b11, rfl, hb11, hB11, hx11⟩
      have hE := hE.trans hx11
      have hS1 := hS1.trans hx11
      have hM_b := hM_b.ext hx11
      have hB4_5 := hB4_5.ext hx11
      have hO4_5 := hO4_5.ext hx11
      have hG5 := hG5.ext hx11
      have hB8 := hB8.ext hx11
      refine L.step rfl (op_append (a := (p5.1 : Nm)) (ad := ⟨b11, 0, none⟩) rfl rfl rfl sl40 zs24 bt24 hO4_5 hB11.cells (by omega) (by decide) (Nat.succ_le_of_lt hB4_5.lt)) ?_
      rintro v12 w12 ⟨hO12, hg12⟩
      have hS1 := hS1.own (hO4_5.lower (by omega)) hg12
      have hG5 := hG5.farO hO4_5 hg12
      have hB4_5 := hB4_5.far hg12 (hO4_5.ne' (Nat.lt_succ_self _))
      have hM_b := S1_hM_b.ext hS1
      have hE := S1_hE.trans hS1
      refine L.step rfl (op_put (v := v12) rfl s4_5 rfl si40 hB4_5 (Nat.le_of_ble_eq_true rfl) hO12.cells hO12.onec) ?_
      rintro _ w13 ⟨hB13, hg13⟩
      have hO12 := (hO12).kept hg13 (hO12.ne (Nat.lt_succ_self _))
      have hS1 := hS1.grown hg13 (by intro k hk; cases hk; omega)
      have hG5 := hG5.farB hB4_5 hg13
      have hM_b := S1_hM_b.ext hS1
      have hE := S1_hE.trans hS1
      have hB4_5 := hB13
      refine L.nil ?_
      refine blockF_nor ?_
      refine thenF_nor ?_
      exact ⟨(done ++ [p5]), ⟨s4_1, s4_4, s4_5, (by rw [← hstep]; exact ⟨_, hB4_5, hO12⟩), s4_9, hG5, hS1⟩, (by have hgl := hG5.len; simp only [List.length_append, List.length_cons, List.length_nil] at hgl ⊢; omega)⟩
    · have hp10 := hc10
      simp only [Bool.and_eq_true, Bool.or_eq_true, Bool.and_eq_false_iff, Bool.or_eq_false_iff, Bool.not_eq_true', Bool.not_eq_false', decide_eq_true_eq, decide_eq_false_iff_not] at hp10
      have hstep := outs_no (keep := (ascOut n)) (done := done) (p := p5) hc10
      refine W.skip ?_
      refine blockF_nor ?_
      refine thenF_nor ?_
      exact ⟨(done ++ [p5]), ⟨s4_1, s4_4, s4_5, (by rw [← hstep]; exact ⟨_, hB4_5, hO4_5⟩), s4_9, hG5, hS1⟩, (by have hgl := hG5.len; simp only [List.length_append, List.length_cons, List.length_nil] at hgl ⊢; omega)⟩

set_option maxRecDepth 100000 in
theorem Proposals_ok {m : Int} {parent : Nm} {A_l : Option Addr} {c_l lo_l hi_l : Nat} {l : List Vt} {slot : Int}  {w : World} (hR_l : Rd w lo_l hi_l A_l l) (hl : l.length ≤ 1000000) : Gives Try.prog 33 #[(.int .i64 m), (Enc.val (parent : Nm)), (.slice A_l l.length c_l), (.int .i64 slot)] w fun u w' => SlR w' u (proposals_f m parent l slot : List Nm) ∧ Ext w w' := by
  have hE : Ext w w := Ext.refl w
  have hlen_l := hR_l.len
  refine gives_of_W Try.func33 rfl Try.ntmps33 rfl ?_
  have hsl := signers_len m parent l slot 1
  refine W.seq ?_
  refine W.region (by rfl) ?_
  refine L.step rfl (op_box (cs := (Enc.cells (parent : Nm))) rfl rfl rfl) ?_
  rintro _ w1 ⟨b1, rfl, hb1, hB1, hx1⟩
  have hE := hE.trans hx1
  have hR_l := hR_l.ext hx1
  refine L.val rfl (op_assign rfl rfl) ?_
  refine L.nil ?_
  refine thenF_nor ?_
  refine W.seq ?_
  refine W.region (by rfl) ?_
  refine L.val rfl (op_move rfl rfl) ?_
  refine L.val rfl (op_load (v := (parent : Nm)) rfl rfl ty24 hB1.cells) ?_
  refine L.val rfl (op_move rfl rfl) ?_
  refine L.val rfl (op_move rfl rfl) ?_
  refine L.step rfl (OpS.call (op_call rfl (argsC rfl (argsC rfl (argsC rfl (argsC rfl (argsC rfl argsN))))) Try.func64 rfl rfl) (signers_ok hR_l (by first | omega | (simp only [List.length_drop, List.length_take, List.length_append, List.length_cons, List.length_nil] at *; omega)))) ?_
  rintro _ w2 ⟨⟨b2, rfl, hb2, hM2⟩, hx2⟩
  have hbb2_hE := Nat.le_trans hE.size hb2
  have hE := hE.trans hx2
  have hR_l := hR_l.ext hx2
  have hB1 := hB1.ext hx2
  refine L.step rfl (OpS.call (op_call rfl (argsC rfl (argsC rfl argsN)) Try.func63 rfl rfl) (ascending15_ok hM2 (by first | omega | (simp only [List.length_drop, List.length_take, List.length_append, List.length_cons, List.length_nil] at *; omega)))) ?_
  rintro _ w3 ⟨⟨A3, c3, lo3, hi3, rfl, hcap3, hR3⟩, hx3⟩
  have hE := hE.trans hx3
  have hR_l := hR_l.ext hx3
  have hB1 := hB1.ext hx3
  have hM2 := hM2.ext hx3
  have hlen3 := hR3.len
  refine L.val rfl (op_assign rfl rfl) ?_
  refine L.nil ?_
  refine thenF_nor ?_
  refine W.ret ?_
  exact end_ret1 (v := (.slice A3 (ascending15_f (signers_f m parent l slot 1) 1).length c3)) rfl rfl ⟨(⟨_, _, _, _, rfl, hcap3, hR3⟩ : SlR _ _ _), hE⟩

set_option maxRecDepth 100000 in
theorem Certified_ok {m : Int} {parent : Nm} {A_l : Option Addr} {c_l lo_l hi_l : Nat} {l : List Vt} {slot : Int}  {w : World} (hR_l : Rd w lo_l hi_l A_l l) (hl : l.length ≤ 1000000) : Gives Try.prog 28 #[(.int .i64 m), (Enc.val (parent : Nm)), (.slice A_l l.length c_l), (.int .i64 slot)] w fun u w' => SlR w' u (certified_f m parent l slot : List Nm) ∧ Ext w w' := by
  have hE : Ext w w := Ext.refl w
  have hlen_l := hR_l.len
  refine gives_of_W Try.func28 rfl Try.ntmps28 rfl ?_
  have hsl := signers_len m parent l slot 2
  have hsz0 := size_nn m
  have hsz1 := size_le m
  refine W.seq ?_
  refine W.region (by rfl) ?_
  refine L.step rfl (op_box (cs := (Enc.cells (parent : Nm))) rfl rfl rfl) ?_
  rintro _ w1 ⟨b1, rfl, hb1, hB1, hx1⟩
  have hE := hE.trans hx1
  have hR_l := hR_l.ext hx1
  refine L.val rfl (op_assign rfl rfl) ?_
  refine L.nil ?_
  refine thenF_nor ?_
  refine W.seq ?_
  refine W.region (by rfl) ?_
  refine L.val rfl (op_move rfl rfl) ?_
  refine L.val rfl (op_load (v := (parent : Nm)) rfl rfl ty24 hB1.cells) ?_
  refine L.val rfl (op_move rfl rfl) ?_
  refine L.val rfl (op_move rfl rfl) ?_
  refine L.step rfl (OpS.call (op_call rfl (argsC rfl (argsC rfl (argsC rfl (argsC rfl (argsC rfl argsN))))) Try.func64 rfl rfl) (signers_ok hR_l (by first | omega | (simp only [List.length_drop, List.length_take, List.length_append, List.length_cons, List.length_nil] at *; omega)))) ?_
  rintro _ w2 ⟨⟨b2, rfl, hb2, hM2⟩, hx2⟩
  have hbb2_hE := Nat.le_trans hE.size hb2
  have hE := hE.trans hx2
  have hR_l := hR_l.ext hx2
  have hB1 := hB1.ext hx2
  refine L.val rfl (op_move rfl rfl) ?_
  refine L.call (v := (.int .i64 (size_f m))) rfl (OpS.call (op_call rfl (argsC rfl argsN) Try.func29 rfl rfl) Size_ok) ?_
  intro w3 hx3
  have hE := hE.trans hx3
  have hR_l := hR_l.ext hx3
  have hB1 := hB1.ext hx3
  have hM2 := hM2.ext hx3
  refine L.call (v := (.int .i64 (quorum_f (size_f m)))) rfl (OpS.call (op_call rfl (argsC rfl argsN) Try.func31 rfl rfl) (Quorum_ok (by first | omega | (simp only [List.length_drop, List.length_take, List.length_append, List.length_cons, List.length_nil] at *; omega)) (by first | omega | (simp only [List.length_drop, List.length_take, List.length_append, List.length_cons, List.length_nil] at *; omega)))) ?_
  intro w4 hx4
  have hE := hE.trans hx4
  have hR_l := hR_l.ext hx4
  have hB1 := hB1.ext hx4
  have hM2 := hM2.ext hx4
  refine L.step rfl (OpS.call (op_call rfl (argsC rfl (argsC rfl argsN)) Try.func63 rfl rfl) (ascending15_ok hM2 (by first | omega | (simp only [List.length_drop, List.length_take, List.length_append, List.length_cons, List.length_nil] at *; omega)))) ?_
  rintro _ w5 ⟨⟨A5, c5, lo5, hi5, rfl, hcap5, hR5⟩, hx5⟩
  have hE := hE.trans hx5
  have hR_l := hR_l.ext hx5
  have hB1 := hB1.ext hx5
  have hM2 := hM2.ext hx5
  have hlen5 := hR5.len
  refine L.val rfl (op_assign rfl rfl) ?_
  refine L.nil ?_
  refine thenF_nor ?_
  refine W.ret ?_
  exact end_ret1 (v := (.slice A5 (ascending15_f (signers_f m parent l slot 2) (quorum_f (size_f m))).length c5)) rfl rfl ⟨(⟨_, _, _, _, rfl, hcap5, hR5⟩ : SlR _ _ _), hE⟩

set_option maxRecDepth 100000 in
theorem Echoers_ok {m : Int} {parent : Nm} {A_l : Option Addr} {c_l lo_l hi_l : Nat} {l : List Vt} {slot : Int} {value : Nm}  {w : World} (hR_l : Rd w lo_l hi_l A_l l) (hl : l.length ≤ 1000000) : Gives Try.prog 30 #[(.int .i64 m), (Enc.val (parent : Nm)), (.slice A_l l.length c_l), (.int .i64 slot), (Enc.val (value : Nm))] w fun u w' => u = (.int .i64 (echoers_f m parent l slot value)) ∧ Ext w w' := by
  have hE : Ext w w := Ext.refl w
  have hlen_l := hR_l.len
  refine gives_of_W Try.func30 rfl Try.ntmps30 rfl ?_
  refine W.seq ?_
  refine W.region (by rfl) ?_
  refine L.step rfl (op_box (cs := (Enc.cells (parent : Nm))) rfl rfl rfl) ?_
  rintro _ w1 ⟨b1, rfl, hb1, hB1, hx1⟩
  have hE := hE.trans hx1
  have hR_l := hR_l.ext hx1
  refine L.step rfl (op_box (cs := (Enc.cells (value : Nm))) rfl rfl rfl) ?_
  rintro _ w2 ⟨b2, rfl, hb2, hB2, hx2⟩
  have hE := hE.trans hx2
  have hR_l := hR_l.ext hx2
  have hB1 := hB1.ext hx2
  refine L.val rfl (op_assign rfl rfl) ?_
  refine L.nil ?_
  refine thenF_nor ?_
  refine W.seq ?_
  refine W.drawS [Sp.eq (.int .i64 m), Sp.eq (Enc.val (parent : Nm)), Sp.eq (.slice A_l l.length c_l), Sp.eq (.int .i64 slot), Sp.mapR (signers_f m parent l slot 2 : List (Nm × Int)), Sp.eq (Enc.val (value : Nm)), Sp.eq (.int .i64 (mget (signers_f m parent l slot 2) value)), Sp.eq (.int .i64 (mget (signers_f m parent l slot 2) value))] mixed (by rfl) (Obls.cons ?_ (Obls.cons ?_ (Obls.cons ?_ (Obls.cons ?_ (Obls.cons ?_ (Obls.cons ?_ (Obls.cons ?_ (Obls.cons ?_ Obls.nil)))))))) ?_
  · intro f4 w4 hx4 ho4 hd4
    have d4_s0 : f4 0 = (.int .i64 m) := ho4 0 rfl
    exact D.val rfl (op_move rfl d4_s0)
  · intro f5 w5 hx5 ho5 hd5
    have d5_s6 : f5 6 = (.pointer (some ⟨b1, 0, none⟩)) := ho5 6 rfl
    have hR_l := hR_l.ext hx5
    have hB1 := hB1.ext hx5
    have hB2 := hB2.ext hx5
    exact D.val rfl (op_load (v := (parent : Nm)) rfl d5_s6 ty24 hB1.cells)
  · intro f6 w6 hx6 ho6 hd6
    have d6_s2 : f6 2 = (.slice A_l l.length c_l) := ho6 2 rfl
    exact D.val rfl (op_move rfl d6_s2)
  · intro f7 w7 hx7 ho7 hd7
    have d7_s3 : f7 3 = (.int .i64 slot) := ho7 3 rfl
    exact D.val rfl (op_move rfl d7_s3)
  · intro f8 w8 hx8 ho8 hd8
    have d8_0 : f8 11 = (.int .i64 m) := hd8 0 rfl
    have d8_1 : f8 12 = (Enc.val (parent : Nm)) := hd8 1 rfl
    have d8_2 : f8 13 = (.slice A_l l.length c_l) := hd8 2 rfl
    have d8_3 : f8 14 = (.int .i64 slot) := hd8 3 rfl
    have hR_l := hR_l.ext hx8
    have hB1 := hB1.ext hx8
    have hB2 := hB2.ext hx8
    exact D.call (R := (Sp.mapR (signers_f m parent l slot 2 : List (Nm × Int))).p) rfl (OpS.mono (OpS.call (op_call rfl (argsC d8_0 (argsC d8_1 (argsC d8_2 (argsC d8_3 (argsC rfl argsN))))) Try.func64 rfl rfl) (signers_ok hR_l (by first | omega | (simp only [List.length_drop, List.length_take, List.length_append, List.length_cons, List.length_nil] at *; omega)))) fun _ _ ⟨⟨b, h1, _, h2⟩, h3⟩ => ⟨⟨b, h1, h2⟩, h3⟩)
  · intro f9 w9 hx9 ho9 hd9
    have d9_s9 : f9 9 = (.pointer (some ⟨b2, 0, none⟩)) := ho9 9 rfl
    have hR_l := hR_l.ext hx9
    have hB1 := hB1.ext hx9
    have hB2 := hB2.ext hx9
    exact D.val rfl (op_load (v := (value : Nm)) rfl d9_s9 ty24 hB2.cells)
  · intro f10 w10 hx10 ho10 hd10
    obtain ⟨b10_4, e10_4, hM10_4⟩ := hd10 4 rfl
    have d10_5 : f10 16 = (Enc.val (value : Nm)) := hd10 5 rfl
    have hR_l := hR_l.ext hx10
    have hB1 := hB1.ext hx10
    have hB2 := hB2.ext hx10
    exact D.val rfl (op_lookup (a := (value : Nm)) mp76 rfl e10_4 d10_5 hM10_4)
  · intro f11 w11 hx11 ho11 hd11
    have d11_6 : f11 17 = (.int .i64 (mget (signers_f m parent l slot 2) value)) := hd11 6 rfl
    exact D.val rfl (op_assign rfl d11_6)
  intro f12 w12 hx12 ho12 hr12
  have s0 : f12 0 = (.int .i64 m) := ho12 0 rfl
  have s1 : f12 1 = (Enc.val (parent : Nm)) := ho12 1 rfl
  have s2 : f12 2 = (.slice A_l l.length c_l) := ho12 2 rfl
  have s3 : f12 3 = (.int .i64 slot) := ho12 3 rfl
  have s4 : f12 4 = (Enc.val (value : Nm)) := ho12 4 rfl
  have s6 : f12 6 = (.pointer (some ⟨b1, 0, none⟩)) := ho12 6 rfl
  have s9 : f12 9 = (.pointer (some ⟨b2, 0, none⟩)) := ho12 9 rfl
  have s10 : f12 10 = (.int .i64 (mget (signers_f m parent l slot 2) value)) := hr12 7 (by decide)
  have hE := hE.trans hx12
  have hR_l := hR_l.ext hx12
  have hB1 := hB1.ext hx12
  have hB2 := hB2.ext hx12
  refine thenF_nor ?_
  refine W.ret ?_
  exact end_ret1 (v := (.int .i64 (mget (signers_f m parent l slot 2) value))) rfl s10 ⟨rfl, hE⟩

end Go.Proofs.Ytdknjfmjddlphaa
