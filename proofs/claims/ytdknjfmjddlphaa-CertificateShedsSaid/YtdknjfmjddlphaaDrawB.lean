/-
  A drawn region that appends a datum to a slice in a struct's cell: s.all = append(s.all, x). No program in sight.
-/
import Derived.Test.YtdknjfmjddlphaaDrawG
set_option linter.unusedSectionVars false
set_option linter.unusedSimpArgs false
set_option linter.unusedVariables false
namespace Go.Fk
open Go Go.RowKit
section
variable {P : Program} {N : Nat} {Q : Exit → Fr → World → Prop} {f : Fr} {w wS : World} {α : Type} [Enc α] {K : Type} [Enc K] [DecidableEq K]
theorem rd_far {lo hi : Nat} {A : Option Addr} {l : List α} {g : Option Nat} {w w' : World} (h : Rd w lo hi A l) (hg : w.grownBy w' g) (hne : ∀ ad : Addr, A = some ad → 0 < l.length → some ad.block ≠ g) : Rd w' lo hi A l := ⟨h.1, fun hn => by
  obtain ⟨ad, e, h1, h2, hc⟩ := h.2 hn
  refine ⟨ad, e, h1, h2, fun k x hk j u hu => ?_⟩
  have hcu := hc k x hk j u hu
  have hlt := World.block_lt_of_cell? w _ hcu
  rw [add_block, add_block] at hlt
  rw [World.cell?_of_block (w := w) (by rw [add_block, add_block]; exact hg.block _ hlt (hne ad e hn))]
  exact hcu⟩
/-- the slice's block lies in the world, so below its size -/
theorem rd_clip {lo hi : Nat} {A : Option Addr} {l : List α} {w : World} (h : Rd w lo hi A l) : Rd w lo w.heap.size A l := ⟨h.1, fun hn => by
  obtain ⟨ad, e, h1, _, hc⟩ := h.2 hn
  refine ⟨ad, e, h1, ?_, hc⟩
  have hx : l[0]? = some l[0] := List.getElem?_eq_getElem hn
  have hu : (Enc.cells l[0])[0]? = some ((Enc.cells l[0])[0]'(by rw [Enc.len]; exact Enc.pos)) := List.getElem?_eq_getElem _
  have hlt := World.block_lt_of_cell? w _ (hc 0 _ hx 0 _ hu)
  rwa [add_block, add_block] at hlt⟩
theorem rd_box_ne {lo hi b : Nat} {A : Option Addr} {l : List α} {w : World} {t : TypeId} {cs : List Value} (h : Rd w lo hi A l) (hB : Box w b t cs) (hlt : cs.length < Enc.size α) : ∀ ad : Addr, A = some ad → 0 < l.length → some ad.block ≠ some b := by
  intro ad he hn hb
  obtain ⟨ad', e, _, _, hc⟩ := h.2 hn
  rw [he] at e; cases e
  have hx : l[0]? = some l[0] := List.getElem?_eq_getElem hn
  have hj : Enc.size α - 1 < (Enc.cells l[0]).length := by rw [Enc.len]; have := Enc.pos (α := α); omega
  have hcu := hc 0 _ hx _ _ (List.getElem?_eq_getElem hj)
  injection hb with hb
  have hblk : ((ad.add (0 * Enc.size α)).add (Enc.size α - 1)).block = b := by rw [add_block, add_block]; exact hb
  unfold World.cell? at hcu
  rw [hblk, show w.heap[b]? = _ from hB] at hcu
  simp only at hcu
  split at hcu
  · cases hcu
  · have hoff : Enc.size α - 1 ≤ ((ad.add (0 * Enc.size α)).add (Enc.size α - 1)).off := by
      rw [Nat.zero_mul]
      unfold Addr.add
      split <;> split <;> simp_all
    have := (Array.getElem?_eq_some_iff.1 hcu).1
    simp only [List.size_toArray] at this
    omega
def LeSz (n : Nat) (w : World) : Prop := n ≤ w.heap.size
theorem LeSz.ext {n : Nat} {w w' : World} (h : LeSz n w) (hx : Ext w w') : LeSz n w' := Nat.le_trans h hx.size
theorem own_le {base : Nat} {e : TypeId} {v : Value} {l : List α} {w : World} (h : Own w base e v l) (hn : 0 < l.length) : LeSz base w := by
  obtain ⟨A, c, _, hr, _⟩ := h.form
  obtain ⟨ad, _, h1, h2, _⟩ := hr.2 hn
  unfold LeSz; omega
/-- the snapshot wS, the struct in block pb with its cells, two maps, a slice that is read -/
def Pushed (wS : World) (pb bw bd : Nat) (t : TypeId) (cs : List Value) (lw ld : List (K × Int)) (lo hi : Nat) (A : Option Addr) (acc : List α) (w : World) : Prop := Ext wS w ∧ Box w pb t cs ∧ Mp w bw lw ∧ Mp w bd ld ∧ Rd w lo hi A acc
theorem Pushed.ext {pb bw bd : Nat} {t : TypeId} {cs : List Value} {lw ld : List (K × Int)} {lo hi : Nat} {A : Option Addr} {acc : List α} {w w' : World} (h : Pushed wS pb bw bd t cs lw ld lo hi A acc w) (hx : Ext w w') : Pushed wS pb bw bd t cs lw ld lo hi A acc w' := ⟨h.1.trans hx, h.2.1.ext hx, h.2.2.1.ext hx, h.2.2.2.1.ext hx, h.2.2.2.2.ext hx⟩
def Sp.w0 (w : World) : Sp := ⟨fun _ w' => Ext w w', fun _ _ _ h hx => h.trans hx⟩
def Sp.lit (w : World) (e : TypeId) (x : α) : Sp := ⟨fun u w' => ∃ b, u = .slice (some ⟨b, 0, none⟩) 1 1 ∧ Box w' b e (Enc.cells x) ∧ Ext w w', fun _ _ _ ⟨b, h1, h2, h3⟩ hx => ⟨b, h1, h2.ext hx, h3.trans hx⟩⟩
def Sp.app (wS : World) (base pb bw bd : Nat) (t e : TypeId) (cs : List Value) (lw ld : List (K × Int)) (lo hi : Nat) (A : Option Addr) (acc : List α) (l : List α) : Sp := ⟨fun u w' => Own w' base e u l ∧ Pushed wS pb bw bd t cs lw ld lo hi A acc w', fun _ _ _ h hx => ⟨h.1.ext hx, h.2.ext hx⟩⟩
def Sp.put (wS : World) (base pb bw bd off : Nat) (t e : TypeId) (cs : List Value) (lw ld : List (K × Int)) (lo hi : Nat) (A : Option Addr) (acc : List α) (l : List α) : Sp := ⟨fun u w' => Own w' base e u l ∧ Pushed wS pb bw bd t (cs.set off u) lw ld lo hi A acc w', fun _ _ _ h hx => ⟨h.1.ext hx, h.2.ext hx⟩⟩
theorem W.drawPush {id : Nat} {ops : List Oper} {i6 i7 i10 base pb bw bd off lo hi : Nat} {A : Option Addr} {acc : List α} {ts t e : TypeId} {cs : List Value} {lw ld : List (K × Int)} {l : List α} {x : α} {v : Value} {bytes : Nat} (V : List Value) (hm : P.follows .mixedOrders = true)
    (hok : drawOkC N ops [i6, i7, i10] [[(i6, Sp.w0 w)], [(i6, Sp.lit w e x)], [(i7, Sp.app wS base pb bw bd t e cs lw ld lo hi A acc (l ++ [x]))], [(i7, Sp.put wS base pb bw bd off t e cs lw ld lo hi A acc (l ++ [x]))]] = true)
    (T : TySl P ts e α) (hzz : ((P.info? e).bind (·.zero)).map (·.cells.size) = some (Enc.size α)) (hby : (P.info? e).map (·.bytes) = some bytes) (hb0 : 0 < bytes) (hss : (P.info? ts).map (·.size) = some 1) (hes : Enc.size α ≤ 16777216)
    (hO : Own w base e v l) (hn : (l.length + 1) * bytes ≤ 140737488355328) (hP : Pushed wS pb bw bd t cs lw ld lo hi A acc w) (hpb : wS.heap.size ≤ pb) (hbs : pb < base) (hbw : base ≤ w.heap.size) (hhi : hi ≤ base) (hcs : cs.length < Enc.size α) (hoff : off < cs.length)
    (hval : VObls [i6, i7, i10] (fun i o => ∀ f' w', (waitsAt ops i6 i = true ∨ waitsAt ops i7 i = true → Ext w w') → (∀ j, outside ops j = true → f' j = f j) → (∀ j, inCh [i6, i7, i10] j = false → waits o j = true → slotF ops.toArray f' j = vOf V j) →
      o.guard = none ∧ (execOp (evalF f') o).run P w' = .ok (.value (vOf V i)) w' ∧ o.dst.isSome = true) 0 ops)
    {o6 o7 o10 : Oper} {d4 d5 d6 d7 d9 : Nat} (q6 : ops[i6]? = some o6) (q7 : ops[i7]? = some o7) (q10 : ops[i10]? = some o10) (g6 : o6.guard = none) (g7 : o7.guard = none) (g10 : o10.guard = none) (e6 : o6.dst = some d6) (e7 : o7.dst = some d7)
    (p6 : o6.op = .buildSlice ts 1 #[(0, .tmp d5)]) (p7 : o7.op = .call { callee := .builtin .append, args := #[.tmp d4, .tmp d6], argTypes := #[ts, ts] }) (p10 : o10.op = .store ts (.tmp d9) (.tmp d7)) (hne : Nat.beq i6 i7 = false)
    (h6 : ∀ f' : Fr, (∀ j, outside ops j = true → f' j = f j) → (∀ j, inCh [i6, i7, i10] j = false → waits o6 j = true → slotF ops.toArray f' j = vOf V j) → f' d5 = Enc.val x)
    (h7 : ∀ f' : Fr, (∀ j, outside ops j = true → f' j = f j) → (∀ j, inCh [i6, i7, i10] j = false → waits o7 j = true → slotF ops.toArray f' j = vOf V j) → f' d4 = v)
    (h10 : ∀ f' : Fr, (∀ j, outside ops j = true → f' j = f j) → (∀ j, inCh [i6, i7, i10] j = false → waits o10 j = true → slotF ops.toArray f' j = vOf V j) → f' d9 = .pointer (some ⟨pb, off, none⟩))
    (hfin : ∀ f' w' u, (∀ j, outside ops j = true → f' j = f j) → (∀ i, i < ops.length → inCh [i6, i7, i10] i = false → slotF ops.toArray f' i = vOf V i) → Own w' base e u (l ++ [x]) → Pushed wS pb bw bd t (cs.set off u) lw ld lo hi A acc w' → Q .normal f' w') :
    W P N (.region id ops.toArray true) Q f w := by
  have nog : ∀ {o : Oper} {g : Nat → Option Bool}, o.guard = none → Region.wanted o g = true := fun h => by rw [Region.wanted, h]
  have hsl : ∀ {i d : Nat} {o : Oper} (f' : Fr), ops[i]? = some o → o.dst = some d → slotF ops.toArray f' i = f' d := fun f' ho hd => by
    unfold slotF
    rw [List.getElem?_toArray, ho]; simp [hd]
  refine W.drawG [i6, i7, i10] _ (vOf V) (fun _ => True) (fun _ _ => trivial) hm hok (fun s w' hx => ⟨hx, trivial⟩) ?_ ?_ ?_
  · intro i o ho hc f' w' _ hout hd ⟨k, hk, hs, hno⟩
    have := VObls.get (i := 0) (k := i) hval ho (by rw [Nat.zero_add]; exact hc)
    rw [Nat.zero_add] at this
    have hx : waitsAt ops i6 i = true ∨ waitsAt ops i7 i = true → Ext w w' := by
      intro hw
      have hk1 : k ≤ 1 := by
        rcases hw with hw | hw
        · rcases Nat.lt_or_ge 0 k with h | h
          · have := hno 0 i6 h rfl; rw [hw] at this; cases this
          · omega
        · rcases Nat.lt_or_ge 1 k with h | h
          · have := hno 1 i7 h rfl; rw [hw] at this; cases this
          · omega
      match k, hk1 with
      | 0, _ => exact hs.1
      | 1, _ => obtain ⟨⟨b, _, _, h3⟩, _⟩ := hs; exact h3
    obtain ⟨h1, h2, h3⟩ := this f' w' hx hout hd
    exact ⟨fun _ => OpS.val h2 ⟨rfl, rfl⟩, fun hw => (by rw [nog h1] at hw; cases hw), fun hn => by rw [hn] at h3; cases h3⟩
  · intro k c o hk hc f' w' _ hout hd hs
    match k, hk with
    | 0, hk =>
      simp at hk; subst hk
      rw [q6] at hc; cases hc
      have hx : Ext w w' := hs.1
      refine ⟨fun _ => (op_slice1 p6 (h6 f' hout hd) T hzz hes).mono ?_, fun hw => by rw [nog g6] at hw; cases hw⟩
      rintro u w'' ⟨b, hu, _, hB, hx2⟩
      exact ⟨trivial, ⟨b, by show (bif Nat.beq _ _ then _ else _) = _; rw [Nat.beq_refl]; exact hu, hB, hx.trans hx2⟩, trivial⟩
    | 1, hk =>
      simp at hk; subst hk
      rw [q7] at hc; cases hc
      obtain ⟨⟨b, hu, hB, hx⟩, _⟩ := hs
      rw [hsl f' q6 e6] at hu
      have hO' := hO.ext hx
      have hP' := hP.ext hx
      refine ⟨fun _ => (op_append p7 (h7 f' hout hd) hu T hzz hby hO' hB.cells hn hb0 (Nat.le_trans hbw hx.size)).mono ?_, fun hw => by rw [nog g7] at hw; cases hw⟩
      rintro u w'' ⟨hO2, hg⟩
      refine ⟨trivial, ⟨by show Own _ _ _ (bif Nat.beq _ _ then _ else _) _; rw [Nat.beq_refl]; exact hO2, hP'.1.own (hO'.lower (by omega)) hg, hP'.2.1.far hg (hO'.ne' hbs), hP'.2.2.1.farO hO' hg, hP'.2.2.2.1.farO hO' hg, rd_far hP'.2.2.2.2 hg (fun ad he hn hb => by obtain ⟨ad', e', _, h2, _⟩ := hP'.2.2.2.2.2 hn; rw [he] at e'; cases e'; have := (hO'.lt _ hb.symm).1; omega)⟩, trivial⟩
    | 2, hk =>
      simp at hk; subst hk
      rw [q10] at hc; cases hc
      obtain ⟨⟨hO2, hE, hB, hM1, hM2, hRA⟩, _⟩ := hs
      rw [hsl f' q7 e7] at hO2
      refine ⟨fun _ => (op_put p10 (h10 f' hout hd) rfl hss hB hoff hO2.cells hO2.onec).mono ?_, fun hw => by rw [nog g10] at hw; cases hw⟩
      rintro u w'' ⟨hB2, hg⟩
      have hne2 : Nat.beq i7 i10 = false := by
        unfold drawOkC at hok
        simp only [Bool.and_eq_true, decide_eq_true_eq] at hok
        have hnd := hok.1.1.1.2
        cases hb : Nat.beq i7 i10 with
        | false => rfl
        | true => simp [Nat.eq_of_beq_eq_true hb] at hnd
      refine ⟨trivial, ⟨?_, ?_⟩, trivial⟩
      · show Own _ _ _ (bif Nat.beq i7 i10 then _ else _) _
        rw [hne2]
        show Own w'' base e (slotF ops.toArray f' i7) (l ++ [x])
        rw [hsl f' q7 e7]
        exact hO2.kept hg (hO2.ne hbs)
      · show Pushed _ _ _ _ _ (cs.set off (bif Nat.beq i7 i10 then _ else _)) _ _ _ _ _ _ _
        rw [hne2]
        show Pushed wS pb bw bd t (cs.set off (slotF ops.toArray f' i7)) lw ld lo hi A acc w''
        rw [hsl f' q7 e7]
        exact ⟨hE.grown hg (by intro k hk; cases hk; exact hpb), hB2, hM1.farB hB hg, hM2.farB hB hg, rd_far hRA hg (rd_box_ne hRA hB hcs)⟩
    | k + 3, hk => simp at hk
  · intro f' w' _ hout hv hs
    exact hfin f' w' _ hout hv hs.1.1 hs.1.2
end
end Go.Fk
