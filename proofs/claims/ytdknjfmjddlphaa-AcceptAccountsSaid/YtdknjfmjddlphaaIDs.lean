/-
  committee.IDs: the ids in a mask, ascending: a loop over committee.members' iterator.
-/
import Derived.Test.YtdknjfmjddlphaaDefs1
import Derived.RangeFuncBox
import Derived.RangeFuncLeaves
import Derived.RangeFuncNested
import Derived.Shelf.Abstract
import Derived.WalkKit
import Derived.OwnWalkIn
import Derived.TacticsInMore
import Derived.LoopNIn
import Derived.LoopIn
import Derived.Maps.AppendAt
namespace Go.Proofs.Ytdknjfmjddlphaa
open Go Go.Fk Go.RowKit Go.Shelf Go.Proofs

attribute [local go_sem] Oper.semAt_some

/-- the ids below k -/
def idsUpto (m : Int) (k : Nat) : List Int := ((List.range k).map fun (k : Nat) => (k : Int)).filter fun i => has_f m i
theorem idsUpto_yes {m : Int} {k : Nat} (h : has_f m k = true) : idsUpto m (k + 1) = idsUpto m k ++ [(k : Int)] := by
  simp [idsUpto, List.range_succ, h]
theorem idsUpto_no {m : Int} {k : Nat} (h : has_f m k = false) : idsUpto m (k + 1) = idsUpto m k := by
  simp [idsUpto, List.range_succ, h]
theorem idsUpto_len (m : Int) (k : Nat) : (idsUpto m k).length ≤ k := by
  refine Nat.le_trans (List.length_filter_le _ _) ?_; simp
theorem idsUpto_pre (m : Int) (k : Nat) (h : k ≤ 10) : idsUpto m k <+: idsUpto m 10 := by
  obtain ⟨j, hj⟩ : ∃ j, 10 = k + j := ⟨10 - k, by omega⟩
  rw [hj]
  clear hj h
  induction j with
  | zero => exact List.prefix_refl _
  | succ j ih =>
    refine ih.trans ?_
    cases h : has_f m ((k + j : Nat) : Int) with
    | true => exact ⟨_, (idsUpto_yes h).symm⟩
    | false => exact ⟨[], by rw [List.append_nil]; exact (idsUpto_no h).symm⟩

/-- what a round must leave: the mask in its variable -/
def KpM (Bm : Nat) (W W' : World) : Prop := W.heap.size ≤ W'.heap.size ∧ ∀ v, W.cell? ⟨Bm, 0, none⟩ = some v → W'.cell? ⟨Bm, 0, none⟩ = some v
theorem KpM.t {Bm : Nat} {A B C : World} (h : KpM Bm A B) (k : KpM Bm B C) : KpM Bm A C := ⟨Nat.le_trans h.1 k.1, fun v hv => k.2 v (h.2 v hv)⟩
theorem KpM.b {Bm : Nat} (W : World) (l : Nat) (o o' : Obj) (h : W.heap[l]? = some o) (hc : o.isCells = false) : KpM Bm W (W.putObj l o') :=
  ⟨by simp [World.putObj], fun v hv => cell_kept hv (grownBy_putObj' W l o') (fun r e => by cases e; exact ⟨o, h, hc⟩)⟩

set_option maxRecDepth 100000 in
set_option maxHeartbeats 4000000 in
theorem members1_in (n : Nat) (hn : 2 ≤ n) (l Bm : Nat) (m : Int) (J Jx : List Int → World → Prop)
    (hY : ∀ pre x W, J pre W → pre.length < 10 → YieldAt Fence.wide (n - 1) Try.prog l #[.int .i64 x] W fun e W' =>
      (e = .returned (.bool true) ∧ J (pre ++ [x]) W' ∧ KpM Bm W W') ∨ (e = .returned (.bool false) ∧ Jx (pre ++ [x]) W'))
    (W : World) (hJ : AbidesFrom W.heap.size J) (hBm : W.cell? ⟨Bm, 0, none⟩ = some (.int .i64 m)) (h0 : J [] W) :
    CallsIn Fence.wide n Try.prog 95 #[.func (.yield l) #[] #[], .pointer (some ⟨Bm, 0, none⟩)] W fun e W' => (∃ v, e = .returned v) ∧
      ((∃ ys, ys = idsUpto m 10 ∧ J ys W') ∨ (∃ pre, pre <+: idsUpto m 10 ∧ Jx pre W')) := by
  refine callsIn_of_wp Try.func95 rfl trivial ?_ rfl
  simp only [Try.ntmps95, List.size_toArray, List.length_cons, List.length_nil, Nat.reduceAdd, Nat.reduceSub, Array.replicate_succ, Array.replicate_zero, List.push_toArray, List.append_toArray, List.nil_append, List.cons_append]
  gi_wp2
  gi_loopw [4] (fun p wr => ∃ (k : Nat), p = .int .i64 (k : Int) ∧ k ≤ 10 ∧ W.heap.size ≤ wr.heap.size ∧ wr.cell? ⟨Bm, 0, none⟩ = some (.int .i64 m) ∧ J (idsUpto m k) wr)
    (fun p wr => 10 - (intOf p).toNat)
  case atStart => exact ⟨0, rfl, by omega, Nat.le_refl _, hBm, h0⟩
  case round =>
    obtain ⟨k, rfl, hk, hsz, hc, hJs⟩ := hrel
    by_cases hlt : k < 10
    · have hlt' : (k : Int) < 10 := by omega
      have hcall := Has_ok (m := m) (i := (k : Int)) (w := wr)
      cases hb : has_f m (k : Int) with
      | true =>
        rw [hb] at hcall
        gi_wp2
        refine ⟨trivial, fun _ => by omega, ?_⟩
        refine (callsIn_wide.2 hcall).mono ?_
        rintro e w' ⟨v, rfl, rfl, hx⟩
        have hJ2 : J (idsUpto m k) w' := hJ _ _ _ none hJs (ext_grown hx) (fun r e => by cases e)
        obtain ⟨fn, tmps, assign, body, hy, hR⟩ := hY (idsUpto m k) (k : Int) w' hJ2 (by have := idsUpto_len m k; omega)
        gi_wp2
        refine ⟨fun _ => by omega, hR.mono ?_⟩
        rintro e W3 (⟨rfl, hJ3, hk3⟩ | ⟨rfl, hJx3⟩)
        · gi_wp2
          go_roundw
          case rel => exact ⟨k + 1, by simp, by omega, by have h1 := hx.size; have h2 := hk3.1; omega, hk3.2 _ (hx.cell hc), by rw [idsUpto_yes hb]; exact hJ3⟩
          case measure => simp [intOf]; omega
        · gi_wp2
          refine bodyPost_ret (results_none rfl _ _ _) rfl ?_
          exact ⟨⟨_, rfl⟩, .inr ⟨idsUpto m k ++ [(k : Int)], by rw [← idsUpto_yes hb]; exact idsUpto_pre m (k + 1) (by omega), hJx3⟩⟩
      | false =>
        rw [hb] at hcall
        gi_wp2
        refine ⟨trivial, fun _ => by omega, ?_⟩
        refine (callsIn_wide.2 hcall).mono ?_
        rintro e w' ⟨v, rfl, rfl, hx⟩
        gi_wp2
        refine ⟨fun _ h => (by cases h), ?_⟩
        gi_wp2
        go_roundw
        case rel => exact ⟨k + 1, by simp, by omega, by have h1 := hx.size; omega, hx.cell hc, by rw [idsUpto_no hb]; exact hJ _ _ _ none hJs (ext_grown hx) (fun r e => by cases e)⟩
        case measure => simp [intOf]; omega
    · have hge' : ¬ (k : Int) < 10 := by omega
      gi_wp2
      go_end0
      have e10 : k = 10 := by omega
      rw [e10] at hJs
      exact ⟨⟨_, rfl⟩, .inl hJs⟩

set_option maxHeartbeats 1000000 in
/-- committee.members: the mask is boxed; the function value captures the box -/
theorem members_in (n : Nat) (m : Int) (w : World) :
    CallsIn Fence.wide n Try.prog 69 #[.int .i64 m] w fun e w' => e = .returned (.func (.func 95) #[] #[.pointer (some ⟨w.heap.size, 0, none⟩)]) ∧ w' = w.alloc (.cells #[.int .i64 m] 22) := by
  refine callsIn_of_wp Try.func69 rfl trivial ?_ rfl
  simp only [Try.ntmps69, List.size_toArray, List.length_cons, List.length_nil, Nat.reduceAdd, Nat.reduceSub, Array.replicate_succ, Array.replicate_zero, List.push_toArray, List.append_toArray, List.nil_append, List.cons_append]
  gi_wp2
  go_ret
  exact ⟨rfl, rfl⟩
theorem members_stops (n : Nat) (hn : 2 ≤ n) (Bm : Nat) (m : Int) (w : World) (hBm : Bm < w.heap.size) (hc : w.cell? ⟨Bm, 0, none⟩ = some (.int .i64 m)) :
    SeqStopsK Fence.wide n Try.prog 95 #[.pointer (some ⟨Bm, 0, none⟩)] (fun x : Int => #[Value.int .i64 x]) (KpM Bm) (fun ys => ys = idsUpto m 10) (fun pre => pre <+: idsUpto m 10) 10 w := fun l J Jx W hW hJ _ hY h0 =>
  members1_in n hn l Bm m J Jx hY W hJ ((hW.cell (p := ⟨Bm, 0, none⟩) hBm).trans hc) h0

theorem info_int : (Try.prog.info? 3).map (fun i => (i.zero, i.size, i.bytes)) = some (some (.int .i64 0), 1, 8) := by kernel_rfl

set_option maxRecDepth 100000 in
set_option maxHeartbeats 4000000 in
theorem IDs_in (m : Int) (w : World) :
    CallsIn Fence.wide 9 Try.prog 44 #[.int .i64 m] w fun e W' => ∃ v, e = .returned v ∧ W'.ownsRow w.heap.size 3 1 v (idsUpto m 10).length ((idsUpto m 10).map (Value.int .i64)) ∧ Below w.heap.size w W' := by
  obtain ⟨i0, hi, hz0, hz1, hz2⟩ := info_parts info_int
  refine callsIn_of_wp_marks Try.func44 rfl trivial ?_ rfl
  simp only [Try.ntmps44, List.size_toArray, List.length_cons, List.length_nil, Nat.reduceAdd, Nat.reduceSub, Array.replicate_succ, Array.replicate_zero, List.push_toArray, List.append_toArray, List.nil_append, List.cons_append]
  gi_wp2
  refine ⟨trivial, (members_in 8 m _).mono ?_⟩
  rintro e w' ⟨rfl, rfl⟩
  gi_wp2
  have bO := Boxed.new w 57 (.slice none 0 0)
  have bN := Boxed.new (w.alloc (.cells #[.slice none 0 0] 57)) 22 (.int .i64 m)
  rw [World.size_alloc] at bN
  have hB0 : Below w.heap.size w ((w.alloc (.cells #[.slice none 0 0] 57)).alloc (.cells #[.int .i64 m] 22)) := ((Below.refl _ w).alloc (Nat.le_refl _) _).alloc (by simp) _
  refine wpIn_rangeFunc_ownG rfl (by omega) (gf := 95) (lb := #[.pointer (some ⟨w.heap.size + 1, 0, none⟩)]) rfl trivial (enters_of Try.func95 (by kernel_rfl) rfl)
    (members_stops 8 (by omega) (w.heap.size + 1) m _ (by simp) bN.cell) KpM.t (fun W l o o' _ h hc _ => KpM.b W l o o' h hc) (Below.refl _ _) (fun _ => rfl)
    (fun (pre : List Int) W => (∃ v, Boxed W w.heap.size 57 v ∧ W.ownsRow w.heap.size 3 1 v pre.length (pre.map (Value.int .i64)) ∧ True) ∧ Boxed W (w.heap.size + 1) 22 (.int .i64 m) ∧ Below w.heap.size w W)
    (fun _ _ _ => False)
    (OwnFrom.and (Own.from (holdsRow_own w.heap.size w.heap.size 57 3 1 (fun (pre : List Int) => pre.length) (fun pre => pre.map (Value.int .i64)) (fun _ _ => True)) _) (OwnFrom.and (Own.from (boxed_own _ _ _) _) (ownFrom_below (Nat.le_refl _) (by simp; omega))))
    (fun _ _ _ _ _ hs _ _ => hs)
    ⟨⟨_, bO.alloc _, World.ownsRow_nil _ _ _ _, trivial⟩, bN, hB0⟩
    (fun x => { tmps := #[.int .i64 m, undef, .slice none 0 0, .pointer (some ⟨w.heap.size, 0, none⟩), .int .i64 x, .int .i64 m, .func (.func 95) #[] #[.pointer (some ⟨w.heap.size + 1, 0, none⟩)], .int .i64 x, undef, undef, undef, undef, undef], defers := [] }) ?assign ?body ?done ?stop
  case assign =>
    intro l x W K hK
    gi_wp2
    exact hK
  case body =>
    rintro l pre x W ⟨⟨v, hv, hrow, _⟩, hM, hB⟩ hlt
    have hc := hv.cell
    gi_wp2_with (gi_at_builtin; refine wpListIn_append_own _ rfl _ _ 57 rfl w.heap.size 3 i0 (.int .i64 0) 1 8 Try.underlying57 hi hz0 hz1 hz2 rfl (by decide) _ _ _ rfl (hrow.alloc _) ⟨W.heap.size, 0, none⟩ 1 1 [.int .i64 x] rfl rfl (cell_one_new _ _ _) (by simp [Value.oneCell']) (by unfold maxLen; omega) (by omega) (by have := hB.size; simp; omega) ?_; intro v' w1 hown' hgrow _; obtain ⟨g', cap', rfl⟩ := ownsRow_succ hown'; obtain ⟨hv1, hv2, hr2, hk2, hb2⟩ := hv.appended (by decide) hrow hB.size (Nat.le_refl _) hown' hgrow; have hc1 := hv1.cell; have hf1 := hv1.frozen)
    have hM1 := (hM.alloc (.cells #[.int .i64 x] 3)).kept hgrow (hM.not_row (by decide) hrow)
    have hM2 := hM1.other (B' := w.heap.size) (by omega) (Value.slice (some { block := g', off := 0 }) (pre.length + 1) cap')
    exact ⟨hk2.from _, ⟨hb2.size, fun u hu => by rw [hM.cell] at hu; cases hu; exact hM2.cell⟩, ⟨_, hv2, by simpa using hr2, trivial⟩, hM2, hB.trans hb2⟩
  case done =>
    rintro D ys W hD rfl ⟨⟨v, hv, hrow, _⟩, hM, hB⟩ hK
    have hc := hv.cell
    gi_wp2
    refine ⟨by simp, .inl ⟨_, _, rfl, run_takeDeferred hK, ?_⟩⟩
    exact ⟨_, results_tmp rfl _ _ _, v, rfl, ownsRow_putObj hrow _ hK rfl, hB.trans (belowK_b (w := w) (Nat.le_refl _) W D _ _ (by simp at hD; omega) hK rfl rfl)⟩
  case stop =>
    rintro D c pre W _ _ h _
    exact h.elim

theorem flat_ints : ∀ l : List Int, l.flatMap Enc.cells = l.map (Value.int .i64)
  | [] => rfl
  | x :: l => by rw [List.flatMap_cons, flat_ints l]; rfl
theorem IDs_ok {m : Int} {w : World} : Gives Try.prog 44 #[(.int .i64 m)] w fun u w' => SlR w' u (ids_f m : List Int) ∧ Ext w w' := by
  refine Calls.mono (callsIn_wide.1 (IDs_in m w)) ?_
  rintro e w' ⟨v, rfl, hr, hB⟩
  have hO : Go.Fk.Own w' w.heap.size 3 v (ids_f m) := by
    unfold Go.Fk.Own
    rw [flat_ints]
    exact hr
  exact ⟨v, rfl, hO.slr, hB⟩
end Go.Proofs.Ytdknjfmjddlphaa
