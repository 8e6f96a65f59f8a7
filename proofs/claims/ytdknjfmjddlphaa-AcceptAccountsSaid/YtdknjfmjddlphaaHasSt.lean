/-
  court.has over a function value that keeps a state of its own in memory.
-/
import Derived.Test.YtdknjfmjddlphaaG3
namespace Go.Proofs.Ytdknjfmjddlphaa
open Go Go.Fk
set_option linter.unusedVariables false
set_option linter.unusedSimpArgs false

/-- whether one fits, each judged with those before it -/
def anySt (q : List Vt → Vt → Bool) : List Vt → List Vt → Bool
  | _, [] => false
  | pre, x :: t => q pre x || anySt q (pre ++ [x]) t
theorem anySt_bang {q : List Vt → Vt → Bool} {c : List Vt} {k : Nat} (h : k < c.length) : anySt q (c.take k) (c.drop k) = (q (c.take k) c[k]! || anySt q (c.take (k + 1)) (c.drop (k + 1))) := by
  rw [drop_bang h, take_bang h]; rfl

set_option maxRecDepth 100000 in
theorem has_st {m_c q_c : Int} {A_c : Option Addr} {c_c lo_c hi_c : Nat} {c : List Vt} {g : Nat} {caps : List Value} {fn : Func} (hg1 : Try.prog.funcs[g]? = some fn) (hg2 : fn.body.isSome = true) (hg3 : (fn.name == "runtime.NumGoroutine") = false) (J : List Vt → World → Prop) (q : List Vt → Vt → Bool)
    (hJx : ∀ pre w1 w2, J pre w1 → Ext w1 w2 → J pre w2) (hJR : ∀ pre w1, J pre w1 → Rd w1 lo_c hi_c A_c c) (hcall : ∀ pre x w1, J pre w1 → Gives Try.prog g (Enc.val (x : Vt) :: caps).toArray w1 fun u w2 => u = .bool (q pre x) ∧ J (pre ++ [x]) w2) {w : World} (hJ : J [] w) :
    Gives Try.prog 55 #[(.agg #[(.int .i64 m_c), (.int .i64 q_c), (.slice A_c c.length c_c)]), .func (.func g) #[] caps.toArray] w fun u w' => u = (.bool (anySt q [] c)) ∧ ∃ pre, J pre w' := by
  have hlen_c := (hJR _ _ hJ).len
  refine gives_of_W Try.func55 rfl Try.ntmps55 rfl ?_
  refine W.seq ?_
  refine W.region (by rfl) ?_
  refine L.step rfl (op_box (cs := [(.int .i64 m_c), (.int .i64 q_c), (.slice A_c c.length c_c)]) rfl rfl rfl) ?_
  rintro _ w1 ⟨b1, rfl, hb1, hB1, hx1⟩
  have hJ := hJx _ _ _ hJ hx1
  refine L.val (v := (.bool false)) rfl (op_assign rfl rfl) ?_
  refine L.nil ?_
  refine thenF_nor ?_
  refine W.seq ?_
  refine W.seq ?_
  refine W.region (by rfl) ?_
  refine L.val rfl (op_field rfl rfl fo68_2 rfl) ?_
  refine L.val rfl (op_load1 rfl rfl one25 (hB1.cells.one (n := 2) rfl)) ?_
  refine L.val rfl (op_len rfl rfl ln25) ?_
  refine L.val rfl (op_move rfl rfl) ?_
  refine L.nil ?_
  refine thenF_nor ?_
  refine W.block ?_
  refine W.loopg (γ := Nat) (fun (k : Nat) (f : Fr) (w : World) => k ≤ c.length ∧ anySt q (c.take k) (c.drop k) = anySt q [] c ∧ f 1 = .func (.func g) #[] caps.toArray ∧ f 8 = (.slice A_c c.length c_c) ∧ f 9 = (.int .i64 (c.length : Int)) ∧ f 10 = (.int .i64 ((k : Nat) : Int)) ∧ J (c.take k) w) (fun (k : Nat) => c.length - k) 0 ⟨(by omega), rfl, rfl, rfl, rfl, rfl, hJ⟩ ?_
  rintro k f3 w3 ⟨hk, hany, s3_1, s3_8, s3_9, s3_10, hJ⟩
  have hR_c := hJR _ _ hJ
  refine W.seq ?_
  refine W.region (by rfl) ?_
  refine L.val rfl (op_lss rfl s3_10 s3_9) ?_
  refine L.nil ?_
  refine thenF_nor ?_
  refine W.seq ?_
  refine W.cond (t := decide (((k : Nat) : Int) < (c.length : Int))) rfl (fun hc4 => ?_) (fun hc4 => ?_)
  · have hp4 := hc4
    simp only [Bool.and_eq_true, Bool.or_eq_true, Bool.and_eq_false_iff, Bool.or_eq_false_iff, Bool.not_eq_true', Bool.not_eq_false', decide_eq_true_eq, decide_eq_false_iff_not] at hp4
    refine W.skip ?_
    refine thenF_nor ?_
    refine W.seq ?_
    refine W.block ?_
    refine W.seq ?_
    refine W.region (by rfl) ?_
    have hx5 := get_bang (l := c) (k := k) (by omega)
    obtain ⟨ad5, hA5, hlo5, hhi5, hc5⟩ := hR_c.get hx5
    refine L.val rfl (op_index (k := k) rfl s3_8 s3_10 sl25 hA5 rfl (by omega) rfl) ?_
    refine L.val rfl (op_load (v := (c[k]! : Vt)) rfl rfl ty28 hc5) ?_
    refine L.newvar (v := (Enc.val (c[k]! : Vt))) (cs := (Enc.cells (c[k]! : Vt))) rfl rfl rfl rfl rfl rfl (fun _ => rfl) rfl si28 zs28 (Enc.one _) ?_
    intro b6 w6 hb6 hB6 hx6
    have hJ := hJx _ _ _ hJ hx6
    refine L.nil ?_
    refine thenF_nor ?_
    refine W.seq ?_
    refine W.region (by rfl) ?_
    refine L.val rfl (op_move rfl s3_1) ?_
    refine L.val rfl (op_load (v := (c[k]! : Vt)) rfl rfl ty28 hB6.cells) ?_
    refine L.step rfl (OpS.call (op_callv (g := g) (caps := caps) rfl rfl (argsC rfl argsN) hg1 hg2 hg3) (hcall _ c[k]! _ hJ)) ?_
    rintro _ w7 ⟨rfl, hJ⟩
    rw [← take_bang (by omega)] at hJ
    rw [anySt_bang (by omega)] at hany
    refine L.nil ?_
    refine thenF_nor ?_
    refine W.cond (t := q (c.take k) c[k]!) rfl (fun hc8 => ?_) (fun hc8 => ?_)
    · have hp8 := hc8
      have hyes := hc8
      have hres : true = anySt q [] c := by rw [← hany, hyes]; rfl
      refine W.seq ?_
      refine W.region (by rfl) ?_
      refine L.val (v := (.bool true)) rfl (op_assign rfl rfl) ?_
      refine L.nil ?_
      refine thenF_nor ?_
      refine W.ret ?_
      refine blockF_ret ?_
      refine thenF_ret ?_
      refine thenF_ret ?_
      refine blockF_ret ?_
      refine thenF_ret ?_
      exact end_ret1 (v := (.bool true)) rfl rfl ⟨(by rw [← hres]), _, hJ⟩
    · have hp8 := hc8
      have hno := hc8
      rw [hno, Bool.false_or] at hany
      refine W.skip ?_
      refine blockF_nor ?_
      refine thenF_nor ?_
      refine W.region (by rfl) ?_
      refine L.val rfl (op_add (c := ((k + 1 : Nat) : Int)) rfl s3_10 rfl (by omega) (by omega)) ?_
      refine L.val rfl (op_move rfl rfl) ?_
      refine L.nil ?_
      refine thenF_nor ?_
      exact ⟨k + 1, ⟨(by (try dsimp only); omega), hany, s3_1, s3_8, s3_9, rfl, hJ⟩, (by (try dsimp only); omega)⟩
  · have hp4 := hc4
    simp only [Bool.and_eq_true, Bool.or_eq_true, Bool.and_eq_false_iff, Bool.or_eq_false_iff, Bool.not_eq_true', Bool.not_eq_false', decide_eq_true_eq, decide_eq_false_iff_not] at hp4
    have hres : false = anySt q [] c := by rw [← hany, List.drop_of_length_le (by omega)]; rfl
    refine W.exit ?_
    refine thenF_exit ?_
    refine thenF_exit ?_
    refine blockF_hit ?_
    refine thenF_nor ?_
    refine W.seq ?_
    refine W.region (by rfl) ?_
    refine L.val (v := (.bool false)) rfl (op_assign rfl rfl) ?_
    refine L.nil ?_
    refine thenF_nor ?_
    refine W.ret ?_
    exact end_ret1 (v := (.bool false)) rfl rfl ⟨(by rw [← hres]), _, hJ⟩
end Go.Proofs.Ytdknjfmjddlphaa
