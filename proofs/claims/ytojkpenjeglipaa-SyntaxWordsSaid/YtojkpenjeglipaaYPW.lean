import Derived.Test.YtojkpenjeglipaaYP2
import Derived.Test.YtojkpenjeglipaaYD11
set_option linter.unusedVariables false
set_option linter.unusedSimpArgs false
namespace Go.Ax
set_option maxRecDepth 100000 in
theorem awake_ok (k : Nat) : d_affluxlaw12_awake (k + 60) = some true := by rfl

theorem awake_ev : Ev (fun n => d_affluxlaw12_awake n) true := ⟨60, fun n hn => by
  obtain ⟨k, rfl⟩ : ∃ k, n = k + 60 := ⟨n - 60, by omega⟩
  exact awake_ok k⟩

/-- The statement's function answers true for any two words. -/
theorem words_ev (s t : ByteArray) : Ev (fun n => d_affluxlaw12_SyntaxWords n s t) true := by
  obtain ⟨N0, h0⟩ := awake_ev
  obtain ⟨N1, h1⟩ := Reserved_ev s
  obtain ⟨N2, h2⟩ := refReserved_ev s
  obtain ⟨N3, h3⟩ := Free_ev [s] (by simp)
  obtain ⟨N4, h4⟩ := refFree_ev s
  obtain ⟨N5, h5⟩ := Free_ev [s, t] (by simp)
  obtain ⟨N6, h6⟩ := refFree_ev t
  obtain ⟨N7, h7⟩ := Free_ev [] (by simp)
  refine ⟨N0 + N1 + N2 + N3 + N4 + N5 + N6 + N7, fun n hn => ?_⟩
  have h0 := h0 n (by omega)
  have h1 := h1 n (by omega)
  have h2 := h2 n (by omega)
  have h3 := h3 n (by omega)
  have h4 := h4 n (by omega)
  have h5 := h5 n (by omega)
  have h6 := h6 n (by omega)
  have h7 := h7 n (by omega)
  simp only [List.all_cons, List.all_nil, Bool.and_true] at h0 h1 h2 h3 h4 h5 h6 h7
  have key : d_affluxlaw12_SyntaxWords_j0 s t n false = some true := by
    simp only [d_affluxlaw12_SyntaxWords_j0, d_affluxlaw12_SyntaxWords_j1, d_affluxlaw12_SyntaxWords_j2, h0, h1, h2, h3, h4, h5, h6, h7, Option.bind_some, cond_true, cond_false, beq_self_eq_true]
    cases freeB s <;> cases freeB t <;> simp
  have key0 : d_affluxlaw12_SyntaxWords_j0 s t n true = some true := by
    simp only [d_affluxlaw12_SyntaxWords_j0, h0, Option.bind_some, cond_true]
  show d_affluxlaw12_SyntaxWords n s t = _
  rw [d_affluxlaw12_SyntaxWords]
  cases decide ((100 : Int) < (s.size : Int)) <;> cases decide ((100 : Int) < (t.size : Int)) <;> simp only [cond_true, cond_false, key, key0]
end Go.Ax
