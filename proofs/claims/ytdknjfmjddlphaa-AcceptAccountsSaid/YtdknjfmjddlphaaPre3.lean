/-
  The last closure of court.precommit: it keeps a pointer to the first vote that counts.
-/
import Derived.Test.YtdknjfmjddlphaaHasSt
namespace Go.Proofs.Ytdknjfmjddlphaa
open Go Go.Fk

/-- whether the vote counts for the Mixed Precommit v -/
def pre3ok (v x : Vt) : Bool := precommit1_f x v && has_f v.support x.signer
/-- whether the vote differs from the first that counts -/
def pre3q (v : Vt) (pre : List Vt) (x : Vt) : Bool := match (pre.filter (pre3ok v)).head? with
  | none => precommit3n_f x (fun xx => precommit1_f xx v) v
  | some y => precommit3s_f x (fun xx => precommit1_f xx v) v y
/-- between two calls: what the pointer holds -/
def J3 (v : Vt) (wP : World) (bf : Nat) (pre : List Vt) (w : World) : Prop :=
  Ext wP w ∧ ((pre.filter (pre3ok v)).head? = none ∧ Box w bf 95 [.pointer none] ∨ ∃ y b, (pre.filter (pre3ok v)).head? = some y ∧ bf < b ∧ Box w bf 95 [.pointer (some ⟨b, 0, none⟩)] ∧ Box w b 28 (Enc.cells y))
theorem J3.ext {v : Vt} {wP : World} {bf : Nat} {pre : List Vt} {w w' : World} (h : J3 v wP bf pre w) (hx : Ext w w') : J3 v wP bf pre w' := by
  obtain ⟨h1, h2⟩ := h
  refine ⟨h1.trans hx, ?_⟩
  rcases h2 with ⟨h3, h4⟩ | ⟨y, b, h3, h4, h5, h6⟩
  · exact Or.inl ⟨h3, h4.ext hx⟩
  · exact Or.inr ⟨y, b, h3, h4, h5.ext hx, h6.ext hx⟩
theorem pre3_call {wP : World} {bf : Nat} {q_pa p_v : Addr} {fv : Value} {v : Vt} (hq : Cells wP q_pa [fv]) (hf : Fits Try.prog wP fv (fun xx => precommit1_f xx v)) (hp : Cells wP p_v (Enc.cells v)) (hbf : wP.heap.size ≤ bf) (pre : List Vt) (x : Vt) (w : World) (h : J3 v wP bf pre w) :
    Gives Try.prog 85 (Enc.val x :: [.pointer (some q_pa), .pointer (some p_v), .pointer (some ⟨bf, 0, none⟩)]).toArray w fun u w' => u = .bool (pre3q v pre x) ∧ J3 v wP bf (pre ++ [x]) w' := by
  obtain ⟨h1, h2⟩ := h
  have hfa : (pre ++ [x]).filter (pre3ok v) = pre.filter (pre3ok v) ++ [x].filter (pre3ok v) := List.filter_append ..
  have hnok : ((!(precommit1_f x v)) || (!(has_f v.support x.signer))) = !(pre3ok v x) := by unfold pre3ok; cases precommit1_f x v <;> cases has_f v.support x.signer <;> rfl
  rcases h2 with ⟨h3, h4⟩ | ⟨y, b, h3, h4, h5, h6⟩
  · refine (precommit3n_ok (x := x) hq hf hp h4 h1 hbf).mono ?_
    rintro u w' ⟨rfl, hE, hb⟩
    refine ⟨by unfold pre3q; rw [h3], hE, ?_⟩
    have hnil : pre.filter (pre3ok v) = [] := List.head?_eq_none_iff.1 h3
    simp only [hnok] at hb
    rcases hb with ⟨hk, hb⟩ | ⟨hk, b, hlt, hb, hy⟩
    · left
      rw [hfa, hnil]
      have : pre3ok v x = false := by simpa using hk
      simp [this, hb]
    · right
      have : pre3ok v x = true := by simpa using hk
      exact ⟨x, b, by rw [hfa, hnil]; simp [this], hlt, hb, hy⟩
  · refine (precommit3s_ok (x := x) (hq.ext h1) (hf.ext h1) (hp.ext h1) h5 h6).mono ?_
    rintro u w' ⟨rfl, hE⟩
    refine ⟨by unfold pre3q; rw [h3], h1.trans hE, Or.inr ⟨y, b, ?_, h4, h5.ext hE, h6.ext hE⟩⟩
    rw [hfa, List.head?_append, h3]; rfl
theorem pre3_has {wP w : World} {bf : Nat} {q_pa p_v : Addr} {fv : Value} {v : Vt} {m_c q_c : Int} {A_c : Option Addr} {c_c lo_c hi_c : Nat} {c : List Vt} (hR : Rd wP lo_c hi_c A_c c) (hq : Cells wP q_pa [fv]) (hf : Fits Try.prog wP fv (fun xx => precommit1_f xx v)) (hp : Cells wP p_v (Enc.cells v)) (hbf : wP.heap.size ≤ bf) (hx : Ext wP w) (hb : Box w bf 95 [.pointer none]) :
    Gives Try.prog 55 #[(.agg #[(.int .i64 m_c), (.int .i64 q_c), (.slice A_c c.length c_c)]), .func (.func 85) #[] #[.pointer (some q_pa), .pointer (some p_v), .pointer (some ⟨bf, 0, none⟩)]] w fun u w' => u = (.bool (anySt (pre3q v) [] c)) ∧ Ext wP w' :=
  (has_st Try.func85 rfl rfl (J3 v wP bf) (pre3q v) (fun _ _ _ h hx => h.ext hx) (fun _ _ h => hR.ext h.1) (pre3_call hq hf hp hbf) ⟨hx, Or.inl ⟨rfl, hb⟩⟩).mono fun _ _ ⟨h1, _, h2⟩ => ⟨h1, h2.1⟩
end Go.Proofs.Ytdknjfmjddlphaa
