/-
  sort.breakPatterns_func and sort.reverseRange_func make no comparison: the kit's own contracts, told in this session's words: they leave a permutation of the part.
-/
import Derived.Test.YtdknjfmjddlphaaFS4
import Derived.Test.YtdknjfmjddlphaaLay6
import Derived.Shelf.SlSortFuncK.BreakPatternsK
namespace Go.Proofs.Ytdknjfmjddlphaa
open Go Go.Fk Go.Sort Go.Shelf

theorem breakPatterns_ok {α : Type} [Enc α] [Inhabited α] {lt : α → α → Bool} {lv sv : Value} {blk off n : Nat} {w0 w : World} {d : Array α} {a b : Nat} (hL : LessOk Try.prog lt lv blk off n w0) (hS : SwapOk α Try.prog sv blk off n) (_hF : Far blk w0 w) (hblk : blk < w.heap.size) (hn : n < 4611686018427387904) (hs : d.size = n) (hH : Hld w blk off d) (hab : a ≤ b) (hb : b ≤ n) :
    Gives Try.prog 116 #[(.agg #[lv, sv]), (.int .i64 ((a : Nat) : Int)), (.int .i64 ((b : Nat) : Int))] w fun u w' => u = .tuple #[] ∧ ∃ d', PermIn a b d d' ∧ Hld w' blk off d' ∧ Far blk w w' := by
  obtain ⟨g, lb, fn, rfl, _, _, _, _⟩ := hL
  obtain ⟨sf, sb, rfl, hsw⟩ := hS
  subst hs
  refine Calls.mono (Any.breakPatterns_func_cells_w (P := Try.prog) (ρ := sv6_ren) { sv6 with } (Enc.cells (α := α)) (Enc.size α) Enc.len (.func g) #[] lb sf sb blk off a b d w hsw hH hblk hab hb hn) ?_
  rintro e w' ⟨rfl, m, os, rfl⟩
  have hp := breakPatterns_holds d a b hab hb
  exact ⟨_, rfl, rfl, _, hp, holdsK_sortWorldK _ _ w blk off m d _ os hblk hH hp.1, far_sortWorldK _ _ w blk off m _ os⟩

theorem reverseRange_ok {α : Type} [Enc α] [Inhabited α] {lt : α → α → Bool} {lv sv : Value} {blk off n : Nat} {w0 w : World} {d : Array α} {a b : Nat} (hL : LessOk Try.prog lt lv blk off n w0) (hS : SwapOk α Try.prog sv blk off n) (_hF : Far blk w0 w) (hblk : blk < w.heap.size) (hn : n < 4611686018427387904) (hs : d.size = n) (hH : Hld w blk off d) (hab : a ≤ b) (hb : b ≤ n) :
    Gives Try.prog 118 #[(.agg #[lv, sv]), (.int .i64 ((a : Nat) : Int)), (.int .i64 ((b : Nat) : Int))] w fun u w' => u = .tuple #[] ∧ ∃ d', PermIn a b d d' ∧ Hld w' blk off d' ∧ Far blk w w' := by
  obtain ⟨g, lb, fn, rfl, _, _, _, _⟩ := hL
  obtain ⟨sf, sb, rfl, hsw⟩ := hS
  subst hs
  refine Calls.mono (Any.reverseRange_func_cells_w (P := Try.prog) (ρ := sv6_ren) { sv6 with } (Enc.cells (α := α)) (Enc.size α) Enc.len (.func g) #[] lb sf sb blk off a b d w hsw hH hblk hab hb hn) ?_
  rintro e w' ⟨rfl, m, os, rfl⟩
  have hp := reverseRange_holds d a b hab hb
  exact ⟨_, rfl, rfl, _, hp, holdsK_sortWorldK _ _ w blk off m d _ os hblk hH hp.1, far_sortWorldK _ _ w blk off m _ os⟩
end Go.Proofs.Ytdknjfmjddlphaa
