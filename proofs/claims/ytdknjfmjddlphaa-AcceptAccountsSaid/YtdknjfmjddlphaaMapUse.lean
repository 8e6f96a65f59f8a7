/-
  m[k] op= x in a region that draws its order. No program in sight.
-/
import Derived.Test.YtdknjfmjddlphaaDrawC
set_option linter.unusedSectionVars false
set_option linter.unusedSimpArgs false
set_option linter.unusedVariables false
namespace Go.Fk
open Go Go.RowKit

def vOf : List Value → Nat → Value
  | [], _ => undef
  | v :: _, 0 => v
  | _ :: r, i + 1 => vOf r i
/-- of each operation that is not of the chain -/
def VObls (ch : List Nat) (Pd : Nat → Oper → Prop) : Nat → List Oper → Prop
  | _, [] => True
  | i, o :: r => (inCh ch i = false → Pd i o) ∧ VObls ch Pd (i + 1) r
theorem VObls.cons {ch : List Nat} {Pd : Nat → Oper → Prop} {i : Nat} {o : Oper} {r : List Oper} (h : inCh ch i = false → Pd i o) (hr : VObls ch Pd (i + 1) r) : VObls ch Pd i (o :: r) := ⟨h, hr⟩
theorem VObls.nil {ch : List Nat} {Pd : Nat → Oper → Prop} {i : Nat} : VObls ch Pd i [] := trivial
theorem VObls.get {ch : List Nat} {Pd : Nat → Oper → Prop} : ∀ {l : List Oper} {i k : Nat} {o : Oper}, VObls ch Pd i l → l[k]? = some o → inCh ch (i + k) = false → Pd (i + k) o
  | [], _, _, _, _, hk, _ => by simp at hk
  | x :: l, i, 0, o, h, hk, hc => by simp at hk; subst hk; exact h.1 hc
  | x :: l, i, k + 1, o, h, hk, hc => by
    simp only [List.getElem?_cons_succ] at hk
    have := VObls.get (k := k) h.2 hk (by rwa [show i + 1 + k = i + (k + 1) by omega])
    rwa [show i + 1 + k = i + (k + 1) by omega] at this

section
variable {K : Type} [Enc K] [DecidableEq K] {P : Program} {N : Nat} {Q : Exit → Fr → World → Prop} {f : Fr} {w : World} {b : Nat} {l : List (K × Int)} {a : K} {v : Int}
def Sp.mp (b : Nat) (l : List (K × Int)) : Sp := ⟨fun _ w => Mp w b l, fun _ _ _ h hx => h.ext hx⟩
def Sp.me (b : Nat) (l : List (K × Int)) (a : K) : Sp := ⟨fun u w => ∃ (x : Int) (s : Nat), u = .tuple #[.int .i64 x, goInt s] ∧ MpE w b l a s, fun _ _ _ ⟨x, s, h1, h2⟩ hx => ⟨x, s, h1, h2.ext hx⟩⟩
def Sp.mx (b : Nat) (l : List (K × Int)) (a : K) : Sp := ⟨fun u w => ∃ s : Nat, u = goInt s ∧ MpE w b l a s, fun _ _ _ ⟨s, h1, h2⟩ hx => ⟨s, h1, h2.ext hx⟩⟩
/-- the map before, with its entry, the entry's stamp at hand, behind -/
def muSt (me ex b : Nat) (l : List (K × Int)) (a : K) (v : Int) : List (List (Nat × Sp)) :=
  [[(me, Sp.mp b l)], [(me, Sp.me b (mput l a (mget l a)) a)], [(ex, Sp.mx b (mput l a (mget l a)) a)], [(me, Sp.mp b (mput l a v))]]
theorem mget_mput_same (l : List (K × Int)) (h : (l.map Prod.fst).Nodup) (a : K) (x : Int) : mget (mput l a x) a = x := mget_mem (mput_nodup h) (p := (a, x)) (mput_mem.2 (Or.inl rfl))
theorem MpE.keys' {s : Nat} (h : MpE w b l a s) : (l.map Prod.fst).Nodup := h.mp.keys
/-- what a reading of the map at the key finds, as long as the new value has not been laid in -/
theorem mu_read {ops : List Oper} {me ex es i : Nat} {s : Nat → Value} {w' : World} (hl : (l.map Prod.fst).Nodup) (h : ∃ k, k ≤ [me, ex, es].length ∧ stageOk (stg (muSt me ex b l a v) k) s w' ∧ ∀ j c, j < k → [me, ex, es][j]? = some c → waitsAt ops c i = false) (hw : waitsAt ops es i = true) : ∃ l', Mp w' b l' ∧ mget l' a = mget l a := by
  obtain ⟨k, hk, hs, hno⟩ := h
  match k, hk with
  | 0, _ => exact ⟨_, hs.1, rfl⟩
  | 1, _ =>
    obtain ⟨⟨x, s, _, h⟩, _⟩ := hs
    exact ⟨_, h.mp, mget_mput_same l hl a _⟩
  | 2, _ =>
    obtain ⟨⟨s, _, h⟩, _⟩ := hs
    exact ⟨_, h.mp, mget_mput_same l hl a _⟩
  | 3, _ =>
    have := hno 2 es (by omega) rfl
    rw [hw] at this; cases this
  | k + 4, hk => simp at hk
theorem op_lookupQ {o : Oper} {m x : Operand} {t k e : TypeId} {c : Int} (T : TyMap P t k e K) (ho : o.op = .lookup t m x false) (hm : evalF f m = .map (some b)) (hx : evalF f x = Enc.val a) (h : Mp w b l) (hq : mget l a = c) : (execOp (evalF f) o).run P w = .ok (.value (.int .i64 c)) w := by
  rw [← hq]; exact op_lookup T ho hm hx h
theorem mput_twice (l : List (K × Int)) (a : K) (x y : Int) : mput (mput l a x) a y = mput l a y := mput_mput l a x y

def Sp.mapR (l : List (K × Int)) : Sp := ⟨fun u w => ∃ b, u = .map (some b) ∧ Mp w b l, fun _ _ _ ⟨b, h1, h2⟩ hx => ⟨b, h1, h2.ext hx⟩⟩
theorem Mp.farG {b2 r : Nat} {l2 d : List (K × Int)} {K' : Type} [Enc K'] [DecidableEq K'] {l' : List (K' × Int)} {w' : World} (h : Mp w b2 l') (hG : Rg w b r l2 d) (hg : w.grownBy w' (some r)) : Mp w' b2 l' := h.far hg (by
  intro e
  cases e
  obtain ⟨es, c, h⟩ := h
  obtain ⟨_, _, _, _, _, _, hr, _⟩ := hG
  rw [h.heap] at hr
  cases hr)
theorem op_nextE {o : Oper} {x : Operand} {r : Nat} {done : List (K × Int)} (ho : o.op = .next x false) (hx : evalF f x = .pointer (some ⟨r, 0, none⟩)) (h : Rg w b r l done) :
    OpS P o f w fun u w' => (u = .tuple #[.bool false] ∧ done.Perm l ∧ Ext w w') ∨
      ∃ p, p ∈ l ∧ p ∉ done ∧ u = .tuple #[.bool true, Enc.val p.1, .int .i64 p.2] ∧ Rg w' b r l (done ++ [p]) ∧ w.grownBy w' (some r) ∧ w'.heap.size = w.heap.size :=
  (op_next ho hx h).mono fun u w' hh => by
    rcases hh with ⟨h1, h2, rfl⟩ | hh
    · exact Or.inl ⟨h1, h2, Ext.refl _⟩
    · exact Or.inr hh
theorem W.drawU {id : Nat} {ops : List Oper} {me ex es : Nat} {t k e : TypeId} (T : TyMap P t k e K) (V : List Value) (hm : P.follows .mixedOrders = true) (hok : drawOkC N ops [me, ex, es] (muSt me ex b l a v) = true) (hM : Mp w b l)
    (hval : VObls [me, ex, es] (fun i o => ∀ f' w', w.grownBy w' (some b) → (∀ j, outside ops j = true → f' j = f j) → (∀ j, inCh [me, ex, es] j = false → waits o j = true → slotF ops.toArray f' j = vOf V j) →
      (∃ k, k ≤ [me, ex, es].length ∧ stageOk (stg (muSt me ex b l a v) k) (slotF ops.toArray f') w' ∧ ∀ j c, j < k → [me, ex, es][j]? = some c → waitsAt ops c i = false) →
      o.guard = none ∧ (execOp (evalF f') o).run P w' = .ok (.value (vOf V i)) w' ∧ o.dst.isSome = true) 0 ops)
    {ome oex oes : Oper} (hme : ops[me]? = some ome) (hex : ops[ex]? = some oex) (hes : ops[es]? = some oes) {xm xk ym y : Operand} {d1 d2 : Nat} (gme : ome.guard = none) (gex : oex.guard = none) (ges : oes.guard = none)
    (dme : ome.dst = some d1) (dex : oex.dst = some d2) (hne : Nat.beq me ex = false)
    (o1 : ome.op = .mapEntry t xm xk) (o2 : oex.op = .extract (.tmp d1) 1) (o3 : oes.op = .entryStore t ym (.tmp d2) y)
    (hx : ∀ f' : Fr, (∀ j, outside ops j = true → f' j = f j) → (∀ j, inCh [me, ex, es] j = false → waits ome j = true → slotF ops.toArray f' j = vOf V j) → evalF f' xm = .map (some b) ∧ evalF f' xk = Enc.val a)
    (hy : ∀ f' : Fr, (∀ j, outside ops j = true → f' j = f j) → (∀ j, inCh [me, ex, es] j = false → waits oes j = true → slotF ops.toArray f' j = vOf V j) → evalF f' ym = .map (some b) ∧ evalF f' y = .int .i64 v)
    (hfin : ∀ f' w', w.grownBy w' (some b) → (∀ j, outside ops j = true → f' j = f j) → (∀ i, i < ops.length → inCh [me, ex, es] i = false → slotF ops.toArray f' i = vOf V i) → Mp w' b (mput l a v) → Q .normal f' w') :
    W P N (.region id ops.toArray true) Q f w := by
  have nog : ∀ {o : Oper} {g : Nat → Option Bool}, o.guard = none → Region.wanted o g = true := fun h => by rw [Region.wanted, h]
  refine W.drawC [me, ex, es] (muSt me ex b l a v) (vOf V) (some b) hm hok (fun s w' hx => ⟨hM.ext hx, trivial⟩) ?_ ?_ ?_
  · intro i o ho hc f' w' hg hout hd hk
    have := VObls.get (i := 0) (k := i) hval ho (by rw [Nat.zero_add]; exact hc)
    rw [Nat.zero_add] at this
    obtain ⟨h1, h2, h3⟩ := this f' w' hg hout hd hk
    exact ⟨fun _ => OpS.val h2 ⟨rfl, rfl⟩, fun hw => (by rw [nog h1] at hw; cases hw), fun hn => by rw [hn] at h3; cases h3⟩
  · intro k c o hk hc f' w' hg hout hd hs
    match k, hk with
    | 0, hk =>
      simp at hk; subst hk
      rw [hme] at hc; cases hc
      obtain ⟨hm1, hk1⟩ := hx f' hout hd
      refine ⟨fun _ => (op_mapEntry T o1 hm1 hk1 hs.1).mono ?_, fun hw => by rw [nog gme] at hw; cases hw⟩
      rintro u w'' ⟨s, rfl, hE, hg2, _⟩
      refine ⟨grown_trans hg hg2, ⟨mget l a, s, by show (bif Nat.beq _ _ then _ else _) = _; rw [Nat.beq_refl]; rfl, hE⟩, trivial⟩
    | 1, hk =>
      simp at hk; subst hk
      rw [hex] at hc; cases hc
      obtain ⟨⟨x, s, h1, h2⟩, _⟩ := hs
      have hsl : f' d1 = .tuple #[.int .i64 x, goInt s] := by
        have : slotF ops.toArray f' me = f' d1 := by
          unfold slotF
          have : ops.toArray[me]? = some ome := by simp [hme]
          rw [this]; simp [dme]
        rw [← this]; exact h1
      refine ⟨fun _ => OpS.val (op_extract o2 hsl rfl) ⟨hg, ⟨s, by simp, h2⟩, trivial⟩, fun hw => by rw [nog gex] at hw; cases hw⟩
    | 2, hk =>
      simp at hk; subst hk
      rw [hes] at hc; cases hc
      obtain ⟨⟨s, h1, h2⟩, _⟩ := hs
      have hsl : f' d2 = goInt s := by
        have : slotF ops.toArray f' ex = f' d2 := by
          unfold slotF
          have : ops.toArray[ex]? = some oex := by simp [hex]
          rw [this]; simp [dex]
        rw [← this]; exact h1
      obtain ⟨hm1, hv1⟩ := hy f' hout hd
      refine ⟨fun _ => (op_entryStore o3 hm1 hsl hv1 h2).mono ?_, fun hw => by rw [nog ges] at hw; cases hw⟩
      rintro u w'' ⟨hM2, hg2, _⟩
      rw [mput_mput] at hM2
      exact ⟨grown_trans hg hg2, hM2, trivial⟩
    | k + 3, hk => simp at hk
  · intro f' w' hg hout hv hs
    exact hfin f' w' hg hout hv hs.1
end
end Go.Fk
