/-
  The orders of names and votes are strict and total. No walk.
-/
import Derived.Test.YtdknjfmjddlphaaG1
import Derived.Test.YtdknjfmjddlphaaSrt
namespace Go.Proofs.Ytdknjfmjddlphaa
open Go Go.Fk

theorem or8 (x c : Int) (h0 : 0 ≤ x) (h1 : x < 72057594037927936) (h2 : 0 ≤ c) (h3 : c < 256) : bits .or .u64 (IntKind.u64.wrap (x * 2 ^ (8 : Int).toNat)) (IntKind.u64.wrap c) = x * 256 + c := by
  have w1 : ∀ n : Int, 0 ≤ n → n < 18446744073709551616 → IntKind.u64.wrap n = n := fun n a b => by
    simp only [IntKind.wrap, IntKind.bits, IntKind.signed]
    simp
    omega
  have e8 : (2 : Int) ^ (8 : Int).toNat = 256 := by decide
  rw [e8, w1 (x * 256) (by omega) (by omega), w1 c h2 (by omega)]
  show IntKind.u64.wrap (((BitVec.ofInt 64 (x * 256) ||| BitVec.ofInt 64 c).toNat : Nat) : Int) = _
  obtain ⟨n, rfl⟩ : ∃ n : Nat, x = n := ⟨x.toNat, by omega⟩
  obtain ⟨k, rfl⟩ : ∃ k : Nat, c = k := ⟨c.toNat, by omega⟩
  have a1 : (BitVec.ofInt 64 ((n : Int) * 256)).toNat = n * 256 := by
    rw [BitVec.toNat_ofInt]; simp; omega
  have a2 : (BitVec.ofInt 64 (k : Int)).toNat = k := by
    rw [BitVec.toNat_ofInt]; simp; omega
  rw [BitVec.toNat_or, a1, a2]
  have a3 : n * 256 ||| k = n * 256 + k := by
    have := Nat.shiftLeft_add_eq_or_of_lt (a := n) (b := k) (i := 8) (by omega)
    rw [Nat.shiftLeft_eq] at this
    exact this.symm
  rw [a3, w1 _ (by omega) (by omega)]
  omega

def num (n : Nm) : Int := ((((((((n.n0.toNat : Int) * 256 + n.n1.toNat) * 256 + n.n2.toNat) * 256 + n.n3.toNat) * 256 + n.n4.toNat) * 256 + n.n5.toNat) * 256 + n.n6.toNat) * 256 + n.n7.toNat)
theorem number_eq (n : Nm) : number_f n = num n := by
  have h0 := n.n0.toNat_lt; have h1 := n.n1.toNat_lt; have h2 := n.n2.toNat_lt; have h3 := n.n3.toNat_lt
  have h4 := n.n4.toNat_lt; have h5 := n.n5.toNat_lt; have h6 := n.n6.toNat_lt; have h7 := n.n7.toNat_lt
  unfold number_f num
  rw [or8 0 _ (by omega) (by omega) (by omega) (by omega)]
  rw [or8 (0 * 256 + (n.n0.toNat : Int)) (n.n1.toNat : Int) (by omega) (by omega) (by omega) (by omega)]
  rw [or8 ((0 * 256 + (n.n0.toNat : Int)) * 256 + (n.n1.toNat : Int)) (n.n2.toNat : Int) (by omega) (by omega) (by omega) (by omega)]
  rw [or8 (((0 * 256 + (n.n0.toNat : Int)) * 256 + (n.n1.toNat : Int)) * 256 + (n.n2.toNat : Int)) (n.n3.toNat : Int) (by omega) (by omega) (by omega) (by omega)]
  rw [or8 ((((0 * 256 + (n.n0.toNat : Int)) * 256 + (n.n1.toNat : Int)) * 256 + (n.n2.toNat : Int)) * 256 + (n.n3.toNat : Int)) (n.n4.toNat : Int) (by omega) (by omega) (by omega) (by omega)]
  rw [or8 (((((0 * 256 + (n.n0.toNat : Int)) * 256 + (n.n1.toNat : Int)) * 256 + (n.n2.toNat : Int)) * 256 + (n.n3.toNat : Int)) * 256 + (n.n4.toNat : Int)) (n.n5.toNat : Int) (by omega) (by omega) (by omega) (by omega)]
  rw [or8 ((((((0 * 256 + (n.n0.toNat : Int)) * 256 + (n.n1.toNat : Int)) * 256 + (n.n2.toNat : Int)) * 256 + (n.n3.toNat : Int)) * 256 + (n.n4.toNat : Int)) * 256 + (n.n5.toNat : Int)) (n.n6.toNat : Int) (by omega) (by omega) (by omega) (by omega)]
  rw [or8 (((((((0 * 256 + (n.n0.toNat : Int)) * 256 + (n.n1.toNat : Int)) * 256 + (n.n2.toNat : Int)) * 256 + (n.n3.toNat : Int)) * 256 + (n.n4.toNat : Int)) * 256 + (n.n5.toNat : Int)) * 256 + (n.n6.toNat : Int)) (n.n7.toNat : Int) (by omega) (by omega) (by omega) (by omega)]
  omega
theorem num_inj {a b : Nm} (h : num a = num b) : a = b := by
  have h0 := a.n0.toNat_lt; have h1 := a.n1.toNat_lt; have h2 := a.n2.toNat_lt; have h3 := a.n3.toNat_lt
  have h4 := a.n4.toNat_lt; have h5 := a.n5.toNat_lt; have h6 := a.n6.toNat_lt; have h7 := a.n7.toNat_lt
  have k0 := b.n0.toNat_lt; have k1 := b.n1.toNat_lt; have k2 := b.n2.toNat_lt; have k3 := b.n3.toNat_lt
  have k4 := b.n4.toNat_lt; have k5 := b.n5.toNat_lt; have k6 := b.n6.toNat_lt; have k7 := b.n7.toNat_lt
  unfold num at h
  refine (Nm.ext_iff' a b).2 ⟨?_, ?_, ?_, ?_, ?_, ?_, ?_, ?_⟩ <;> exact UInt8.toNat_inj.1 (by omega)
theorem hashLess_eq (a b : Nm) : hashLess_f a b = decide (num a < num b) := by
  unfold hashLess_f
  rw [number_eq, number_eq]
  by_cases h : a = b
  · subst h; simp
  · simp [h]
theorem nm_dec (a b : Nm) : decide (a = b) = decide (num a = num b) := by
  by_cases h : a = b
  · subst h; simp
  · have : ¬ num a = num b := fun e => h (num_inj e)
    simp [h, this]

/-- two rows of numbers, the first difference decides -/
def lexl : List Int → List Int → Bool
  | x :: xs, y :: ys => bif !decide (x = y) then decide (x < y) else lexl xs ys
  | _, _ => false
theorem lexl_irrefl : ∀ l, lexl l l = false
  | [] => rfl
  | x :: xs => by simp [lexl, lexl_irrefl xs]
theorem lexl_trans : ∀ a b c, lexl a b = true → lexl b c = true → lexl a c = true
  | [], _, _, h, _ => by simp [lexl] at h
  | _ :: _, [], _, h, _ => by simp [lexl] at h
  | _ :: _, _ :: _, [], _, h => by simp [lexl] at h
  | x :: xs, y :: ys, z :: zs, h1, h2 => by
    simp only [lexl] at h1 h2 ⊢
    by_cases e1 : x = y
    · by_cases e2 : y = z
      · subst e1 e2; simp at h1 h2 ⊢; exact lexl_trans _ _ _ h1 h2
      · subst e1; simp [e2] at h1 h2 ⊢; exact h2
    · by_cases e2 : y = z
      · subst e2; simp [e1] at h1 h2 ⊢; exact h1
      · simp [e1, e2] at h1 h2
        have : ¬ x = z := by omega
        simp [this]; omega
theorem lexl_total : ∀ a b, a.length = b.length → lexl a b = false → lexl b a = false → a = b
  | [], [], _, _, _ => rfl
  | [], _ :: _, h, _, _ => by simp at h
  | _ :: _, [], h, _, _ => by simp at h
  | x :: xs, y :: ys, h, h1, h2 => by
    simp only [lexl] at h1 h2
    by_cases e : x = y
    · subst e; simp at h1 h2
      rw [lexl_total xs ys (by simpa using h) h1 h2]
    · have e' : ¬ y = x := fun h => e h.symm
      simp [e, e'] at h1 h2; omega

/-- a strict total order -/
structure Lin {α : Type} (lt : α → α → Bool) : Prop where
  irrefl : ∀ x, lt x x = false
  trans : ∀ x y z, lt x y = true → lt y z = true → lt x z = true
  total : ∀ x y, lt x y = false → lt y x = false → x = y
theorem Lin.asymm {α : Type} {lt : α → α → Bool} (h : Lin lt) {x y : α} (hxy : lt x y = true) : lt y x = false := by
  cases hc : lt y x with
  | false => rfl
  | true => have := h.trans _ _ _ hxy hc; rw [h.irrefl] at this; cases this
theorem Lin.swo {α : Type} {lt : α → α → Bool} (h : Lin lt) : Go.Sort.SWO lt where
  irrefl := h.irrefl
  trans := h.trans
  ntrans x y z h1 h2 := by
    cases hc : lt x z with
    | false => rfl
    | true =>
      cases h3 : lt y x with
      | true => have := h.trans _ _ _ h3 hc; rw [h2] at this; cases this
      | false => have := h.total _ _ h1 h3; subst this; rw [h2] at hc; cases hc
theorem Lin.of_key {α : Type} {lt : α → α → Bool} (key : α → List Int) (n : Nat) (hn : ∀ x, (key x).length = n) (hinj : ∀ x y, key x = key y → x = y) (h : ∀ x y, lt x y = lexl (key x) (key y)) : Lin lt where
  irrefl x := by rw [h]; exact lexl_irrefl _
  trans x y z h1 h2 := by rw [h] at h1 h2 ⊢; exact lexl_trans _ _ _ h1 h2
  total x y h1 h2 := by rw [h] at h1 h2; exact hinj _ _ (lexl_total _ _ (by rw [hn, hn]) h1 h2)

def vkey (v : Vt) : List Int := [num v.parent, v.slot, v.round, v.kind, v.signer, v.choice, num v.value, v.support]
theorem vote_lin : Lin voteLess_f := Lin.of_key vkey 8 (fun _ => rfl)
  (fun x y h => by
    simp only [vkey, List.cons.injEq, and_true] at h
    obtain ⟨h1, h2, h3, h4, h5, h6, h7, h8⟩ := h
    exact (Vt.ext_iff' x y).2 ⟨h4, h2, h3, h6, h5, h8, num_inj h1, num_inj h7⟩)
  (fun a b => by
    unfold voteLess_f vkey
    rw [hashLess_eq, hashLess_eq, nm_dec a.parent, nm_dec a.value]
    simp only [lexl]
    by_cases h8 : a.support = b.support
    · simp [h8]
    · simp [h8])
theorem name_lin : Lin hashLess_f := Lin.of_key (fun n => [num n]) 1 (fun _ => rfl)
  (fun x y h => by simp only [List.cons.injEq, and_true] at h; exact num_inj h)
  (fun a b => by
    rw [hashLess_eq]
    simp only [lexl]
    by_cases h : num a = num b
    · simp [h]
    · simp [h])

/-! ### sorted lists without duplicates -/
set_option linter.unusedSectionVars false
section
variable {α : Type} [DecidableEq α] {lt : α → α → Bool}
/-- strictly ascending -/
def Asc (lt : α → α → Bool) (l : List α) : Prop := l.Pairwise fun a b => lt a b = true
theorem Asc.unique (hl : Lin lt) : ∀ {l m : List α}, Asc lt l → Asc lt m → (∀ x, x ∈ l ↔ x ∈ m) → l = m
  | [], [], _, _, _ => rfl
  | [], y :: m, _, _, h => by have := (h y).2 (by simp); simp at this
  | x :: l, [], _, _, h => by have := (h x).1 (by simp); simp at this
  | x :: l, y :: m, h1, h2, h => by
    obtain ⟨a1, a2⟩ := List.pairwise_cons.1 h1
    obtain ⟨b1, b2⟩ := List.pairwise_cons.1 h2
    have e : x = y := by
      have hx := (h x).1 (by simp)
      have hy := (h y).2 (by simp)
      rcases List.mem_cons.1 hx with e | hx
      · exact e
      · rcases List.mem_cons.1 hy with e | hy
        · exact e.symm
        · have c1 := b1 x hx
          have c2 := a1 y hy
          rw [hl.asymm c1] at c2; cases c2
    subst e
    congr 1
    refine Asc.unique hl a2 b2 fun z => ?_
    constructor
    · intro hz
      rcases List.mem_cons.1 ((h z).1 (by simp [hz])) with e | hz'
      · subst e; have := a1 z hz; rw [hl.irrefl] at this; cases this
      · exact hz'
    · intro hz
      rcases List.mem_cons.1 ((h z).2 (by simp [hz])) with e | hz'
      · subst e; have := b1 z hz; rw [hl.irrefl] at this; cases this
      · exact hz'
/-- the element in its place, unless it is there -/
def ins (lt : α → α → Bool) (x : α) : List α → List α
  | [] => [x]
  | y :: t => bif lt x y then x :: y :: t else bif decide (x = y) then y :: t else y :: ins lt x t
/-- sorted, without duplicates -/
def sorted (lt : α → α → Bool) (l : List α) : List α := l.foldr (ins lt) []
theorem mem_ins (x z : α) : ∀ l, z ∈ ins lt x l ↔ z = x ∨ z ∈ l
  | [] => by simp [ins]
  | y :: t => by
    unfold ins
    cases h : lt x y with
    | true => simp
    | false =>
      by_cases e : x = y
      · subst e; simp
      · simp only [cond_false, e, decide_false, List.mem_cons, mem_ins x z t]
        constructor
        · rintro (h | h | h)
          · exact Or.inr (Or.inl h)
          · exact Or.inl h
          · exact Or.inr (Or.inr h)
        · rintro (h | h | h)
          · exact Or.inr (Or.inl h)
          · exact Or.inl h
          · exact Or.inr (Or.inr h)
theorem asc_ins (hl : Lin lt) (x : α) : ∀ {l}, Asc lt l → Asc lt (ins lt x l)
  | [], _ => by simp [ins, Asc]
  | y :: t, h => by
    obtain ⟨a1, a2⟩ := List.pairwise_cons.1 h
    unfold ins
    cases hxy : lt x y with
    | true =>
      refine List.pairwise_cons.2 ⟨fun z hz => ?_, h⟩
      rcases List.mem_cons.1 hz with e | hz
      · subst e; exact hxy
      · exact hl.trans _ _ _ hxy (a1 z hz)
    | false =>
      by_cases e : x = y
      · subst e; simpa using h
      · simp only [cond_false, e, decide_false]
        have hyx : lt y x = true := by
          cases hc : lt y x with
          | true => rfl
          | false => exact absurd (hl.total _ _ hxy hc) e
        refine List.pairwise_cons.2 ⟨fun z hz => ?_, asc_ins hl x a2⟩
        rcases (mem_ins x z t).1 hz with e | hz
        · subst e; exact hyx
        · exact a1 z hz
theorem sorted_mem (z : α) (l : List α) : z ∈ sorted lt l ↔ z ∈ l := by
  induction l with
  | nil => simp [sorted]
  | cons x t ih => unfold sorted at ih ⊢; rw [List.foldr_cons, mem_ins, ih]; simp
theorem sorted_asc (hl : Lin lt) (l : List α) : Asc lt (sorted lt l) := by
  induction l with
  | nil => simp [sorted, Asc]
  | cons x t ih => unfold sorted at ih ⊢; rw [List.foldr_cons]; exact asc_ins hl x ih
end
end Go.Proofs.Ytdknjfmjddlphaa
