/-
  Contracts of functions of sort.Slice for a comparison that may lay blocks, each with its walk. Printed by a program of this session (wip/gen) from the translation.
-/
import Derived.Test.YtdknjfmjddlphaaFS3
set_option linter.unusedSimpArgs false
set_option linter.unusedVariables false
namespace Go.Proofs.Ytdknjfmjddlphaa
open Go Go.Fk Go.Sort

set_option maxRecDepth 100000 in
theorem order2_ok {α : Type} [Enc α] [Inhabited α] {lt : α → α → Bool} {lv sv : Value} {blk off n : Nat} {w0 w : World} {d : Array α} {bs : Nat} {c : Int} {a b : Nat} (hL : LessOk Try.prog lt lv blk off n w0) (hF : Far blk w0 w) (hblk : blk < w.heap.size) (hn : n < 4611686018427387904) (hs : d.size = n) (hH : Hld w blk off d) (hb0 : w0.heap.size ≤ bs) (hne : blk ≠ bs) (hP : Box w bs 3 [.int .i64 c]) (ha : a < n) (hb : b < n) : Gives Try.prog 135 #[(.agg #[lv, sv]), (.int .i64 ((a : Nat) : Int)), (.int .i64 ((b : Nat) : Int)), (.pointer (some ⟨bs, 0, none⟩))] w fun u w' => ∃ (p q : Nat) (c' : Int), u = .tuple #[.int .i64 ((p : Nat) : Int), .int .i64 ((q : Nat) : Int)] ∧ ((p = a ∧ q = b) ∨ (p = b ∧ q = a)) ∧ Box w' bs 3 [.int .i64 c'] ∧ Far bs w w' := by
  have hE : Far bs w w := Far.refl bs w
  refine gives_of_W Try.func135 rfl Try.ntmps135 rfl ?_
  refine W.seq ?_
  refine W.region (by rfl) ?_
  refine L.step rfl (op_box (cs := [lv, sv]) rfl rfl rfl) ?_
  rintro _ w1 ⟨b1, rfl, hb1, hB1, hx1⟩
  have ne1 : b1 ≠ bs := by have := hE.size; have := hP.lt; omega
  have hE := hE.trans (hx1.far bs)
  have hF := hF.trans (hx1.far blk)
  have hP := hP.ext hx1
  have hH := hH.ext hx1
  refine L.val rfl (op_assign rfl rfl) ?_
  refine L.val rfl (op_assign rfl rfl) ?_
  refine L.nil ?_
  refine thenF_nor ?_
  refine W.seq ?_
  refine W.seq ?_
  refine W.region (by rfl) ?_
  refine L.val rfl (op_field rfl rfl fo106_0 rfl) ?_
  refine L.val rfl (op_load1 rfl rfl one74 (hB1.cells.one (n := 0) rfl)) ?_
  refine L.val rfl (op_move rfl rfl) ?_
  refine L.val rfl (op_move rfl rfl) ?_
  refine L.call (v := (.bool (lt d[b]! d[a]!))) rfl (op_less (i := b) (j := a) hL hF hs hH rfl rfl rfl rfl rfl rfl (by omega) (by omega)) ?_
  intro w2 hx2
  have hE := hE.trans (hx2.far bs)
  have hF := hF.trans (hx2.far blk)
  have hP := hP.ext hx2
  have hB1 := hB1.ext hx2
  have hH := hH.ext hx2
  refine L.nil ?_
  refine thenF_nor ?_
  refine W.cond (t := lt d[b]! d[a]!) rfl (fun hc3 => ?_) (fun hc3 => ?_)
  · have hp3 := hc3
    refine W.seq ?_
    refine W.region (by rfl) ?_
    refine L.val rfl (op_move rfl rfl) ?_
    refine L.val rfl (op_nilCheck rfl rfl) ?_
    refine L.val rfl (op_load1 rfl rfl one3 (hP.cells.one (n := 0) rfl)) ?_
    refine L.val rfl (op_addw rfl rfl rfl) ?_
    refine L.val rfl (op_nilCheck rfl rfl) ?_
    refine L.step rfl (op_store1 (v := (.int .i64 (IntKind.i64.wrap (c + 1)))) rfl rfl rfl si3 hP rfl rfl) ?_
    rintro _ w4 ⟨hP4, hg4⟩
    have hE := hE.trans hg4
    have hF := hF.into hg4 hb0
    have hB1 := hB1.farx hg4 ne1
    have hH := hH.farx hg4 hne
    have hP := hP4
    refine L.nil ?_
    refine thenF_nor ?_
    refine W.seq ?_
    refine W.region (by rfl) ?_
    refine L.val rfl (op_move rfl rfl) ?_
    refine L.val rfl (op_move rfl rfl) ?_
    refine L.val rfl (op_assign rfl rfl) ?_
    refine L.val rfl (op_assign rfl rfl) ?_
    refine L.nil ?_
    refine thenF_nor ?_
    refine W.ret ?_
    refine thenF_ret ?_
    exact end_ret2 (v := (.int .i64 ((b : Nat) : Int))) (v' := (.int .i64 ((a : Nat) : Int))) rfl rfl rfl ⟨_, _, _, rfl, Or.inr ⟨rfl, rfl⟩, hP, hE⟩
  · have hp3 := hc3
    refine W.skip ?_
    refine thenF_nor ?_
    refine W.seq ?_
    refine W.region (by rfl) ?_
    refine L.val rfl (op_move rfl rfl) ?_
    refine L.val rfl (op_move rfl rfl) ?_
    refine L.val rfl (op_assign rfl rfl) ?_
    refine L.val rfl (op_assign rfl rfl) ?_
    refine L.nil ?_
    refine thenF_nor ?_
    refine W.ret ?_
    exact end_ret2 (v := (.int .i64 ((a : Nat) : Int))) (v' := (.int .i64 ((b : Nat) : Int))) rfl rfl rfl ⟨_, _, _, rfl, Or.inl ⟨rfl, rfl⟩, hP, hE⟩

set_option maxRecDepth 100000 in
theorem median_ok {α : Type} [Enc α] [Inhabited α] {lt : α → α → Bool} {lv sv : Value} {blk off n : Nat} {w0 w : World} {d : Array α} {bs : Nat} {c : Int} {a b c0 : Nat} (hL : LessOk Try.prog lt lv blk off n w0) (hF : Far blk w0 w) (hblk : blk < w.heap.size) (hn : n < 4611686018427387904) (hs : d.size = n) (hH : Hld w blk off d) (hb0 : w0.heap.size ≤ bs) (hne : blk ≠ bs) (hP : Box w bs 3 [.int .i64 c]) (ha : a < n) (hb : b < n) (hc : c0 < n) : Gives Try.prog 133 #[(.agg #[lv, sv]), (.int .i64 ((a : Nat) : Int)), (.int .i64 ((b : Nat) : Int)), (.int .i64 ((c0 : Nat) : Int)), (.pointer (some ⟨bs, 0, none⟩))] w fun u w' => ∃ (p : Nat) (c' : Int), u = .int .i64 ((p : Nat) : Int) ∧ (p = a ∨ p = b ∨ p = c0) ∧ Box w' bs 3 [.int .i64 c'] ∧ Far bs w w' := by
  have hE : Far bs w w := Far.refl bs w
  refine gives_of_W Try.func133 rfl Try.ntmps133 rfl ?_
  refine W.seq ?_
  refine W.region (by rfl) ?_
  refine L.step rfl (op_box (cs := [lv, sv]) rfl rfl rfl) ?_
  rintro _ w1 ⟨b1, rfl, hb1, hB1, hx1⟩
  have ne1 : b1 ≠ bs := by have := hE.size; have := hP.lt; omega
  have hE := hE.trans (hx1.far bs)
  have hF := hF.trans (hx1.far blk)
  have hP := hP.ext hx1
  have hH := hH.ext hx1
  refine L.val rfl (op_assign rfl rfl) ?_
  refine L.nil ?_
  refine thenF_nor ?_
  refine W.seq ?_
  refine W.region (by rfl) ?_
  refine L.val rfl (op_loadc (cs := [lv, sv]) rfl rfl ag106 si106 hB1.cells) ?_
  refine L.val rfl (op_move rfl rfl) ?_
  refine L.val rfl (op_move rfl rfl) ?_
  refine L.val rfl (op_move rfl rfl) ?_
  refine L.step rfl (OpS.call (op_call rfl (argsC rfl (argsC rfl (argsC rfl (argsC rfl argsN)))) Try.func135 rfl rfl) (order2_ok (a := a) (b := b) hL hF (Nat.lt_of_lt_of_le hblk hE.size) hn hs hH hb0 hne hP (by omega) (by omega))) ?_
  rintro _ w2 ⟨p2, q2, c2, rfl, hpq2, hP2, hg2⟩
  have hE := hE.trans hg2
  have hF := hF.into hg2 hb0
  have hB1 := hB1.farx hg2 ne1
  have hH := hH.farx hg2 hne
  have hP := hP2
  refine L.val rfl (op_move rfl rfl) ?_
  refine L.val rfl (op_extract rfl rfl rfl) ?_
  refine L.val rfl (op_extract rfl rfl rfl) ?_
  refine L.val rfl (op_assign rfl rfl) ?_
  refine L.val rfl (op_assign rfl rfl) ?_
  refine L.nil ?_
  refine thenF_nor ?_
  refine W.seq ?_
  refine W.region (by rfl) ?_
  refine L.val rfl (op_loadc (cs := [lv, sv]) rfl rfl ag106 si106 hB1.cells) ?_
  refine L.val rfl (op_move rfl rfl) ?_
  refine L.val rfl (op_move rfl rfl) ?_
  refine L.val rfl (op_move rfl rfl) ?_
  refine L.step rfl (OpS.call (op_call rfl (argsC rfl (argsC rfl (argsC rfl (argsC rfl argsN)))) Try.func135 rfl rfl) (order2_ok (a := q2) (b := c0) hL hF (Nat.lt_of_lt_of_le hblk hE.size) hn hs hH hb0 hne hP (by omega) (by omega))) ?_
  rintro _ w3 ⟨p3, q3, c3, rfl, hpq3, hP3, hg3⟩
  have hE := hE.trans hg3
  have hF := hF.into hg3 hb0
  have hB1 := hB1.farx hg3 ne1
  have hH := hH.farx hg3 hne
  have hP := hP3
  refine L.val rfl (op_move rfl rfl) ?_
  refine L.val rfl (op_extract rfl rfl rfl) ?_
  refine L.val rfl (op_extract rfl rfl rfl) ?_
  refine L.val rfl (op_assign rfl rfl) ?_
  refine L.val rfl (op_assign rfl rfl) ?_
  refine L.nil ?_
  refine thenF_nor ?_
  refine W.seq ?_
  refine W.region (by rfl) ?_
  refine L.val rfl (op_loadc (cs := [lv, sv]) rfl rfl ag106 si106 hB1.cells) ?_
  refine L.val rfl (op_move rfl rfl) ?_
  refine L.val rfl (op_move rfl rfl) ?_
  refine L.val rfl (op_move rfl rfl) ?_
  refine L.step rfl (OpS.call (op_call rfl (argsC rfl (argsC rfl (argsC rfl (argsC rfl argsN)))) Try.func135 rfl rfl) (order2_ok (a := p2) (b := p3) hL hF (Nat.lt_of_lt_of_le hblk hE.size) hn hs hH hb0 hne hP (by omega) (by omega))) ?_
  rintro _ w4 ⟨p4, q4, c4, rfl, hpq4, hP4, hg4⟩
  have hE := hE.trans hg4
  have hF := hF.into hg4 hb0
  have hB1 := hB1.farx hg4 ne1
  have hH := hH.farx hg4 hne
  have hP := hP4
  refine L.val rfl (op_move rfl rfl) ?_
  refine L.val rfl (op_extract rfl rfl rfl) ?_
  refine L.val rfl (op_extract rfl rfl rfl) ?_
  refine L.val rfl (op_assign rfl rfl) ?_
  refine L.val rfl (op_assign rfl rfl) ?_
  refine L.nil ?_
  refine thenF_nor ?_
  refine W.seq ?_
  refine W.region (by rfl) ?_
  refine L.val rfl (op_move rfl rfl) ?_
  refine L.val rfl (op_assign rfl rfl) ?_
  refine L.nil ?_
  refine thenF_nor ?_
  refine W.ret ?_
  exact end_ret1 (v := (.int .i64 ((q4 : Nat) : Int))) rfl rfl ⟨_, _, rfl, by omega, hP, hE⟩

set_option maxRecDepth 100000 in
theorem medianAdjacent_ok {α : Type} [Enc α] [Inhabited α] {lt : α → α → Bool} {lv sv : Value} {blk off n : Nat} {w0 w : World} {d : Array α} {bs : Nat} {c : Int} {a : Nat} (hL : LessOk Try.prog lt lv blk off n w0) (hF : Far blk w0 w) (hblk : blk < w.heap.size) (hn : n < 4611686018427387904) (hs : d.size = n) (hH : Hld w blk off d) (hb0 : w0.heap.size ≤ bs) (hne : blk ≠ bs) (hP : Box w bs 3 [.int .i64 c]) (ha : 1 ≤ a) (hb : a + 1 < n) : Gives Try.prog 132 #[(.agg #[lv, sv]), (.int .i64 ((a : Nat) : Int)), (.pointer (some ⟨bs, 0, none⟩))] w fun u w' => ∃ (p : Nat) (c' : Int), u = .int .i64 ((p : Nat) : Int) ∧ (p = a - 1 ∨ p = a ∨ p = a + 1) ∧ Box w' bs 3 [.int .i64 c'] ∧ Far bs w w' := by
  have hE : Far bs w w := Far.refl bs w
  refine gives_of_W Try.func132 rfl Try.ntmps132 rfl ?_
  refine W.seq ?_
  refine W.region (by rfl) ?_
  refine L.step rfl (op_box (cs := [lv, sv]) rfl rfl rfl) ?_
  rintro _ w1 ⟨b1, rfl, hb1, hB1, hx1⟩
  have ne1 : b1 ≠ bs := by have := hE.size; have := hP.lt; omega
  have hE := hE.trans (hx1.far bs)
  have hF := hF.trans (hx1.far blk)
  have hP := hP.ext hx1
  have hH := hH.ext hx1
  refine L.val rfl (op_assign rfl rfl) ?_
  refine L.nil ?_
  refine thenF_nor ?_
  refine W.seq ?_
  refine W.region (by rfl) ?_
  refine L.val rfl (op_loadc (cs := [lv, sv]) rfl rfl ag106 si106 hB1.cells) ?_
  refine L.val rfl (op_move rfl rfl) ?_
  refine L.val rfl (op_sub (c := ((a - 1 : Nat) : Int)) rfl rfl rfl (by omega) (by omega)) ?_
  refine L.val rfl (op_move rfl rfl) ?_
  refine L.val rfl (op_move rfl rfl) ?_
  refine L.val rfl (op_add (c := ((a + 1 : Nat) : Int)) rfl rfl rfl (by omega) (by omega)) ?_
  refine L.val rfl (op_move rfl rfl) ?_
  refine L.step rfl (OpS.call (op_call rfl (argsC rfl (argsC rfl (argsC rfl (argsC rfl (argsC rfl argsN))))) Try.func133 rfl rfl) (median_ok (a := a - 1) (b := a) (c0 := a + 1) hL hF (Nat.lt_of_lt_of_le hblk hE.size) hn hs hH hb0 hne hP (by omega) (by omega) (by omega))) ?_
  rintro _ w2 ⟨p2, c2, rfl, hpq2, hP2, hg2⟩
  have hE := hE.trans hg2
  have hF := hF.into hg2 hb0
  have hB1 := hB1.farx hg2 ne1
  have hH := hH.farx hg2 hne
  have hP := hP2
  refine L.val rfl (op_assign rfl rfl) ?_
  refine L.nil ?_
  refine thenF_nor ?_
  refine W.ret ?_
  exact end_ret1 (v := (.int .i64 ((p2 : Nat) : Int))) rfl rfl ⟨_, _, rfl, by omega, hP, hE⟩

set_option maxRecDepth 100000 in
set_option maxHeartbeats 8000000 in
theorem choosePivot_ok {α : Type} [Enc α] [Inhabited α] {lt : α → α → Bool} {lv sv : Value} {blk off n : Nat} {w0 w : World} {d : Array α} {a b : Nat} (hL : LessOk Try.prog lt lv blk off n w0) (hF : Far blk w0 w) (hblk : blk < w.heap.size) (hn : n < 4611686018427387904) (hs : d.size = n) (hH : Hld w blk off d) (hab : a < b) (hb : b ≤ n) : Gives Try.prog 117 #[(.agg #[lv, sv]), (.int .i64 ((a : Nat) : Int)), (.int .i64 ((b : Nat) : Int))] w fun u w' => ∃ (p : Nat) (h : Int), u = .tuple #[.int .i64 ((p : Nat) : Int), .int .i64 h] ∧ a ≤ p ∧ p < b ∧ Ext w w' := by
  have hE : Ext w w := Ext.refl w
  refine gives_of_W Try.func117 rfl Try.ntmps117 rfl ?_
  refine W.seq ?_
  refine W.region (by rfl) ?_
  refine L.step rfl (op_box (cs := [lv, sv]) rfl rfl rfl) ?_
  rintro _ w1 ⟨b1, rfl, hb1, hB1, hx1⟩
  have hlt1 := hB1.lt
  have hE := hE.trans hx1
  have hF := hF.trans (hx1.far blk)
  have hH := hH.ext hx1
  refine L.val rfl (op_assign rfl rfl) ?_
  refine L.val rfl (op_assign rfl rfl) ?_
  refine L.nil ?_
  refine thenF_nor ?_
  refine W.seq ?_
  refine W.region (by rfl) ?_
  refine L.val rfl (op_move rfl rfl) ?_
  refine L.val rfl (op_move rfl rfl) ?_
  refine L.val rfl (op_sub (c := ((b - a : Nat) : Int)) rfl rfl rfl (by omega) (by omega)) ?_
  refine L.val rfl (op_assign rfl rfl) ?_
  refine L.nil ?_
  refine thenF_nor ?_
  refine W.seq ?_
  refine W.region (by rfl) ?_
  refine L.step rfl (op_alloc (z := .int .i64 0) (cs := [.int .i64 0]) rfl (by kernel_rfl) rfl) ?_
  rintro _ w2 ⟨bs, rfl, hbs2, hP, hx2⟩
  have hbs0 : w.heap.size ≤ bs := by have := hE.size; omega
  have hb0 : w0.heap.size ≤ bs := by have := hF.size; omega
  have hne : blk ≠ bs := by omega
  have ne_hB1 : b1 ≠ bs := by have := hB1.lt; omega
  have hE := hE.trans hx2
  have hF := hF.trans (hx2.far blk)
  have hB1 := hB1.ext hx2
  have hH := hH.ext hx2
  refine L.nil ?_
  refine thenF_nor ?_
  refine W.seq ?_
  refine W.region (by rfl) ?_
  refine L.val rfl (op_move rfl rfl) ?_
  refine L.val rfl (op_move rfl rfl) ?_
  refine L.val rfl (op_quoc (c := (((b - a) / 4 : Nat) : Int)) rfl rfl rfl (by omega) (by omega) (by omega) (by omega)) ?_
  refine L.val rfl (op_mulc (c := ((((b - a) / 4) * 1 : Nat) : Int)) rfl rfl rfl (by omega) (by omega)) ?_
  refine L.val rfl (op_add (c := ((a + (((b - a) / 4) * 1) : Nat) : Int)) rfl rfl rfl (by omega) (by omega)) ?_
  refine L.val rfl (op_assign rfl rfl) ?_
  refine L.nil ?_
  refine thenF_nor ?_
  refine W.seq ?_
  refine W.region (by rfl) ?_
  refine L.val rfl (op_move rfl rfl) ?_
  refine L.val rfl (op_move rfl rfl) ?_
  refine L.val rfl (op_quoc (c := (((b - a) / 4 : Nat) : Int)) rfl rfl rfl (by omega) (by omega) (by omega) (by omega)) ?_
  refine L.val rfl (op_mulc (c := ((((b - a) / 4) * 2 : Nat) : Int)) rfl rfl rfl (by omega) (by omega)) ?_
  refine L.val rfl (op_add (c := ((a + (((b - a) / 4) * 2) : Nat) : Int)) rfl rfl rfl (by omega) (by omega)) ?_
  refine L.val rfl (op_assign rfl rfl) ?_
  refine L.nil ?_
  refine thenF_nor ?_
  refine W.seq ?_
  refine W.region (by rfl) ?_
  refine L.val rfl (op_move rfl rfl) ?_
  refine L.val rfl (op_move rfl rfl) ?_
  refine L.val rfl (op_quoc (c := (((b - a) / 4 : Nat) : Int)) rfl rfl rfl (by omega) (by omega) (by omega) (by omega)) ?_
  refine L.val rfl (op_mulc (c := ((((b - a) / 4) * 3 : Nat) : Int)) rfl rfl rfl (by omega) (by omega)) ?_
  refine L.val rfl (op_add (c := ((a + (((b - a) / 4) * 3) : Nat) : Int)) rfl rfl rfl (by omega) (by omega)) ?_
  refine L.val rfl (op_assign rfl rfl) ?_
  refine L.nil ?_
  refine thenF_nor ?_
  refine W.seq ?_
  refine W.seq ?_
  refine W.region (by rfl) ?_
  refine L.val rfl (op_move rfl rfl) ?_
  refine L.val rfl (op_geq rfl rfl rfl) ?_
  refine L.nil ?_
  refine thenF_nor ?_
  refine W.cond (t := decide (8 ≤ ((b - a : Nat) : Int))) rfl (fun hc3 => ?_) (fun hc3 => ?_)
  · have hp3 := of_decide_eq_true hc3
    refine W.seq ?_
    refine W.seq ?_
    refine W.region (by rfl) ?_
    refine L.val rfl (op_move rfl rfl) ?_
    refine L.val rfl (op_geq rfl rfl rfl) ?_
    refine L.nil ?_
    refine thenF_nor ?_
    refine W.cond (t := decide (50 ≤ ((b - a : Nat) : Int))) rfl (fun hc4 => ?_) (fun hc4 => ?_)
    · have hp4 := of_decide_eq_true hc4
      refine W.seq ?_
      refine W.region (by rfl) ?_
      refine L.val rfl (op_loadc (cs := [lv, sv]) rfl rfl ag106 si106 hB1.cells) ?_
      refine L.val rfl (op_move rfl rfl) ?_
      refine L.step rfl (OpS.call (op_call rfl (argsC rfl (argsC rfl (argsC rfl argsN))) Try.func132 rfl rfl) (medianAdjacent_ok (a := a + (((b - a) / 4) * 1)) hL hF (Nat.lt_of_lt_of_le hblk hE.size) hn hs hH hb0 hne hP (by omega) (by omega))) ?_
      rintro _ w5 ⟨p5, c5, rfl, hpq5, hP5, hg5⟩
      have hE := hE.grown hg5 (by intro k hk; cases hk; exact hbs0)
      have hF := hF.into hg5 hb0
      have hB1 := hB1.farx hg5 ne_hB1
      have hH := hH.farx hg5 hne
      have hP := hP5
      refine L.val rfl (op_assign rfl rfl) ?_
      refine L.nil ?_
      refine thenF_nor ?_
      refine W.seq ?_
      refine W.region (by rfl) ?_
      refine L.val rfl (op_loadc (cs := [lv, sv]) rfl rfl ag106 si106 hB1.cells) ?_
      refine L.val rfl (op_move rfl rfl) ?_
      refine L.step rfl (OpS.call (op_call rfl (argsC rfl (argsC rfl (argsC rfl argsN))) Try.func132 rfl rfl) (medianAdjacent_ok (a := a + (((b - a) / 4) * 2)) hL hF (Nat.lt_of_lt_of_le hblk hE.size) hn hs hH hb0 hne hP (by omega) (by omega))) ?_
      rintro _ w6 ⟨p6, c6, rfl, hpq6, hP6, hg6⟩
      have hE := hE.grown hg6 (by intro k hk; cases hk; exact hbs0)
      have hF := hF.into hg6 hb0
      have hB1 := hB1.farx hg6 ne_hB1
      have hH := hH.farx hg6 hne
      have hP := hP6
      refine L.val rfl (op_assign rfl rfl) ?_
      refine L.nil ?_
      refine thenF_nor ?_
      refine W.region (by rfl) ?_
      refine L.val rfl (op_loadc (cs := [lv, sv]) rfl rfl ag106 si106 hB1.cells) ?_
      refine L.val rfl (op_move rfl rfl) ?_
      refine L.step rfl (OpS.call (op_call rfl (argsC rfl (argsC rfl (argsC rfl argsN))) Try.func132 rfl rfl) (medianAdjacent_ok (a := a + (((b - a) / 4) * 3)) hL hF (Nat.lt_of_lt_of_le hblk hE.size) hn hs hH hb0 hne hP (by omega) (by omega))) ?_
      rintro _ w7 ⟨p7, c7, rfl, hpq7, hP7, hg7⟩
      have hE := hE.grown hg7 (by intro k hk; cases hk; exact hbs0)
      have hF := hF.into hg7 hb0
      have hB1 := hB1.farx hg7 ne_hB1
      have hH := hH.farx hg7 hne
      have hP := hP7
      refine L.val rfl (op_assign rfl rfl) ?_
      refine L.nil ?_
      refine thenF_nor ?_
      refine W.region (by rfl) ?_
      refine L.val rfl (op_loadc (cs := [lv, sv]) rfl rfl ag106 si106 hB1.cells) ?_
      refine L.val rfl (op_move rfl rfl) ?_
      refine L.val rfl (op_move rfl rfl) ?_
      refine L.val rfl (op_move rfl rfl) ?_
      refine L.step rfl (OpS.call (op_call rfl (argsC rfl (argsC rfl (argsC rfl (argsC rfl (argsC rfl argsN))))) Try.func133 rfl rfl) (median_ok (a := p5) (b := p6) (c0 := p7) hL hF (Nat.lt_of_lt_of_le hblk hE.size) hn hs hH hb0 hne hP (by omega) (by omega) (by omega))) ?_
      rintro _ w8 ⟨p8, c8, rfl, hpq8, hP8, hg8⟩
      have hE := hE.grown hg8 (by intro k hk; cases hk; exact hbs0)
      have hF := hF.into hg8 hb0
      have hB1 := hB1.farx hg8 ne_hB1
      have hH := hH.farx hg8 hne
      have hP := hP8
      refine L.val rfl (op_assign rfl rfl) ?_
      refine L.nil ?_
      refine thenF_nor ?_
      refine W.seq ?_
      refine W.region (by rfl) ?_
      refine L.val rfl (op_load1 rfl rfl one3 (hP.cells.one (n := 0) rfl)) ?_
      refine L.nil ?_
      refine thenF_nor ?_
      refine W.block ?_
      refine W.seq ?_
      refine W.region (by rfl) ?_
      refine L.val rfl (op_eql rfl rfl rfl) ?_
      refine L.val rfl (op_assign rfl rfl) ?_
      refine L.nil ?_
      refine thenF_nor ?_
      refine W.cond (t := decide (c8 = 0)) rfl (fun hc9 => ?_) (fun hc9 => ?_)
      · have hp9 := of_decide_eq_true hc9
        refine W.seq ?_
        refine W.region (by rfl) ?_
        refine L.val rfl (op_move rfl rfl) ?_
        refine L.val rfl (op_assign rfl rfl) ?_
        refine L.val rfl (op_assign rfl rfl) ?_
        refine L.nil ?_
        refine thenF_nor ?_
        refine W.ret ?_
        refine blockF_ret ?_
        exact end_ret2 (v := (.int .i64 ((p8 : Nat) : Int))) (v' := (.int .i64 1)) rfl rfl rfl ⟨_, _, rfl, by omega, by omega, hE⟩
      · have hp9 := of_decide_eq_false hc9
        refine W.seq ?_
        refine W.region (by rfl) ?_
        refine L.val rfl (op_eql rfl rfl rfl) ?_
        refine L.val rfl (op_assign rfl rfl) ?_
        refine L.nil ?_
        refine thenF_nor ?_
        refine W.cond (t := decide (c8 = 12)) rfl (fun hc10 => ?_) (fun hc10 => ?_)
        · have hp10 := of_decide_eq_true hc10
          refine W.seq ?_
          refine W.region (by rfl) ?_
          refine L.val rfl (op_move rfl rfl) ?_
          refine L.val rfl (op_assign rfl rfl) ?_
          refine L.val rfl (op_assign rfl rfl) ?_
          refine L.nil ?_
          refine thenF_nor ?_
          refine W.ret ?_
          refine blockF_ret ?_
          exact end_ret2 (v := (.int .i64 ((p8 : Nat) : Int))) (v' := (.int .i64 2)) rfl rfl rfl ⟨_, _, rfl, by omega, by omega, hE⟩
        · have hp10 := of_decide_eq_false hc10
          refine W.seq ?_
          refine W.region (by rfl) ?_
          refine L.val rfl (op_move rfl rfl) ?_
          refine L.val rfl (op_assign rfl rfl) ?_
          refine L.val rfl (op_assign rfl rfl) ?_
          refine L.nil ?_
          refine thenF_nor ?_
          refine W.ret ?_
          refine blockF_ret ?_
          exact end_ret2 (v := (.int .i64 ((p8 : Nat) : Int))) (v' := (.int .i64 0)) rfl rfl rfl ⟨_, _, rfl, by omega, by omega, hE⟩
    · have hp4 := of_decide_eq_false hc4
      refine W.skip ?_
      refine thenF_nor ?_
      refine W.region (by rfl) ?_
      refine L.val rfl (op_loadc (cs := [lv, sv]) rfl rfl ag106 si106 hB1.cells) ?_
      refine L.val rfl (op_move rfl rfl) ?_
      refine L.val rfl (op_move rfl rfl) ?_
      refine L.val rfl (op_move rfl rfl) ?_
      refine L.step rfl (OpS.call (op_call rfl (argsC rfl (argsC rfl (argsC rfl (argsC rfl (argsC rfl argsN))))) Try.func133 rfl rfl) (median_ok (a := a + (((b - a) / 4) * 1)) (b := a + (((b - a) / 4) * 2)) (c0 := a + (((b - a) / 4) * 3)) hL hF (Nat.lt_of_lt_of_le hblk hE.size) hn hs hH hb0 hne hP (by omega) (by omega) (by omega))) ?_
      rintro _ w11 ⟨p11, c11, rfl, hpq11, hP11, hg11⟩
      have hE := hE.grown hg11 (by intro k hk; cases hk; exact hbs0)
      have hF := hF.into hg11 hb0
      have hB1 := hB1.farx hg11 ne_hB1
      have hH := hH.farx hg11 hne
      have hP := hP11
      refine L.val rfl (op_assign rfl rfl) ?_
      refine L.nil ?_
      refine thenF_nor ?_
      refine W.seq ?_
      refine W.region (by rfl) ?_
      refine L.val rfl (op_load1 rfl rfl one3 (hP.cells.one (n := 0) rfl)) ?_
      refine L.nil ?_
      refine thenF_nor ?_
      refine W.block ?_
      refine W.seq ?_
      refine W.region (by rfl) ?_
      refine L.val rfl (op_eql rfl rfl rfl) ?_
      refine L.val rfl (op_assign rfl rfl) ?_
      refine L.nil ?_
      refine thenF_nor ?_
      refine W.cond (t := decide (c11 = 0)) rfl (fun hc12 => ?_) (fun hc12 => ?_)
      · have hp12 := of_decide_eq_true hc12
        refine W.seq ?_
        refine W.region (by rfl) ?_
        refine L.val rfl (op_move rfl rfl) ?_
        refine L.val rfl (op_assign rfl rfl) ?_
        refine L.val rfl (op_assign rfl rfl) ?_
        refine L.nil ?_
        refine thenF_nor ?_
        refine W.ret ?_
        refine blockF_ret ?_
        exact end_ret2 (v := (.int .i64 ((p11 : Nat) : Int))) (v' := (.int .i64 1)) rfl rfl rfl ⟨_, _, rfl, by omega, by omega, hE⟩
      · have hp12 := of_decide_eq_false hc12
        refine W.seq ?_
        refine W.region (by rfl) ?_
        refine L.val rfl (op_eql rfl rfl rfl) ?_
        refine L.val rfl (op_assign rfl rfl) ?_
        refine L.nil ?_
        refine thenF_nor ?_
        refine W.cond (t := decide (c11 = 12)) rfl (fun hc13 => ?_) (fun hc13 => ?_)
        · have hp13 := of_decide_eq_true hc13
          refine W.seq ?_
          refine W.region (by rfl) ?_
          refine L.val rfl (op_move rfl rfl) ?_
          refine L.val rfl (op_assign rfl rfl) ?_
          refine L.val rfl (op_assign rfl rfl) ?_
          refine L.nil ?_
          refine thenF_nor ?_
          refine W.ret ?_
          refine blockF_ret ?_
          exact end_ret2 (v := (.int .i64 ((p11 : Nat) : Int))) (v' := (.int .i64 2)) rfl rfl rfl ⟨_, _, rfl, by omega, by omega, hE⟩
        · have hp13 := of_decide_eq_false hc13
          refine W.seq ?_
          refine W.region (by rfl) ?_
          refine L.val rfl (op_move rfl rfl) ?_
          refine L.val rfl (op_assign rfl rfl) ?_
          refine L.val rfl (op_assign rfl rfl) ?_
          refine L.nil ?_
          refine thenF_nor ?_
          refine W.ret ?_
          refine blockF_ret ?_
          exact end_ret2 (v := (.int .i64 ((p11 : Nat) : Int))) (v' := (.int .i64 0)) rfl rfl rfl ⟨_, _, rfl, by omega, by omega, hE⟩
  · have hp3 := of_decide_eq_false hc3
    refine W.skip ?_
    refine thenF_nor ?_
    refine W.seq ?_
    refine W.region (by rfl) ?_
    refine L.val rfl (op_load1 rfl rfl one3 (hP.cells.one (n := 0) rfl)) ?_
    refine L.nil ?_
    refine thenF_nor ?_
    refine W.block ?_
    refine W.seq ?_
    refine W.region (by rfl) ?_
    refine L.val rfl (op_eql rfl rfl rfl) ?_
    refine L.val rfl (op_assign rfl rfl) ?_
    refine L.nil ?_
    refine thenF_nor ?_
    refine W.cond (t := decide (0 = 0)) rfl (fun hc14 => ?_) (fun hc14 => ?_)
    · have hp14 := of_decide_eq_true hc14
      refine W.seq ?_
      refine W.region (by rfl) ?_
      refine L.val rfl (op_move rfl rfl) ?_
      refine L.val rfl (op_assign rfl rfl) ?_
      refine L.val rfl (op_assign rfl rfl) ?_
      refine L.nil ?_
      refine thenF_nor ?_
      refine W.ret ?_
      refine blockF_ret ?_
      exact end_ret2 (v := (.int .i64 ((a + (((b - a) / 4) * 2) : Nat) : Int))) (v' := (.int .i64 1)) rfl rfl rfl ⟨_, _, rfl, by omega, by omega, hE⟩
    · have hp14 := of_decide_eq_false hc14
      refine W.seq ?_
      refine W.region (by rfl) ?_
      refine L.val rfl (op_eql rfl rfl rfl) ?_
      refine L.val rfl (op_assign rfl rfl) ?_
      refine L.nil ?_
      refine thenF_nor ?_
      refine W.cond (t := decide (0 = 12)) rfl (fun hc15 => ?_) (fun hc15 => ?_)
      · have hp15 := of_decide_eq_true hc15
        refine W.seq ?_
        refine W.region (by rfl) ?_
        refine L.val rfl (op_move rfl rfl) ?_
        refine L.val rfl (op_assign rfl rfl) ?_
        refine L.val rfl (op_assign rfl rfl) ?_
        refine L.nil ?_
        refine thenF_nor ?_
        refine W.ret ?_
        refine blockF_ret ?_
        exact end_ret2 (v := (.int .i64 ((a + (((b - a) / 4) * 2) : Nat) : Int))) (v' := (.int .i64 2)) rfl rfl rfl ⟨_, _, rfl, by omega, by omega, hE⟩
      · have hp15 := of_decide_eq_false hc15
        refine W.seq ?_
        refine W.region (by rfl) ?_
        refine L.val rfl (op_move rfl rfl) ?_
        refine L.val rfl (op_assign rfl rfl) ?_
        refine L.val rfl (op_assign rfl rfl) ?_
        refine L.nil ?_
        refine thenF_nor ?_
        refine W.ret ?_
        refine blockF_ret ?_
        exact end_ret2 (v := (.int .i64 ((a + (((b - a) / 4) * 2) : Nat) : Int))) (v' := (.int .i64 0)) rfl rfl rfl ⟨_, _, rfl, by omega, by omega, hE⟩

end Go.Proofs.Ytdknjfmjddlphaa
