/- Whether any word is reserved, and any words are free: the function answers true for any two words, and leaves them as they are. No condition. -/
import Derived.Test.YtojkpenjeglipaaYPW
import Derived.Test.YtojkpenjeglipaaAxRow
import Derived.Test.YtojkpenjeglipaaRows
import Derived.WalkKit
import Derived.ProofKit
import Derived.OpenShut
set_option linter.unusedVariables false
namespace Go.Proofs.Ytojkpenjeglipaa
open Go.Ax

theorem ownWords : ownKnob Try.prog.godebug = none := by kernel_rfl

set_option maxRecDepth 100000 in
theorem mainWords (dss : List (List D)) (h : TypedAll Try.prog 8 Try.f3.params.toList dss) : ACalls Try.prog 3 (argPVs Try.prog Try.f3.params.toList dss) [] (fun p st' => p = .d (.bool true)) := by
  rw [Try.params3] at h ⊢
  obtain ⟨d1, r1, rfl, t1, d2, r2, rfl, t2, rfl⟩ := h
  unfold TypedD at t1 t2
  rw [Try.underlying9] at t1 t2
  obtain ⟨s, rfl, _⟩ := t1
  obtain ⟨t, rfl, _⟩ := t2
  obtain ⟨n, hn⟩ := (words_ev s t).at
  have := c_affluxlaw12_SyntaxWords (st := []) n s t hn (K := fun p st' => p = .d (.bool true)) rfl
  have e : argPVs Try.prog [9, 9] [[D.str s], [D.str t]] = [.d (.str s), .d (.str t)] := by
    simp only [argPVs, argPV, Try.underlying9]
  exact e ▸ this

set_option maxRecDepth 100000 in
theorem liftedWords (os : Os) (started : os.Started) (H : Type) (enc : TypeId × Value → H) :
    ReturnsInHanded {} Try.checked os 3 .any (Rows.syntaxWordsSpec.pre6 enc Try.prog Try.f3 Rows.syntaxWordsRow.domain false) (Rows.syntaxWordsSpec.post enc Try.prog Try.f3 false true false false) :=
  law_lift (C := Try.checked) (tb := 4) (n := 7) ownWords started (by kernel_rfl) Try.func3
    (ChangeSpec.witness6 (enc := enc) (C := Try.checked) false ⟨#[], #[.string ⟨#[]⟩, .string ⟨#[]⟩], []⟩ 8 (by kernel_rfl) (by kernel_rfl) (by kernel_rfl) (by kernel_rfl))
    rfl (fun ds h => by
      match ds, h with
      | [a, b], _ => rfl) rfl Try.underlying4 (List.all_eq_true.1 (show Try.f3.params.toList.all (plainT Try.prog 8) = true by kernel_rfl))
    (fun dss h => mainWords dss h)

theorem overWords : Rows.syntaxWordsRow.holds Try.pinned (OpenSpec.ofChange Rows.syntaxWordsSpec) :=
  OpenClaim.holds_of_wide 3 Try.f3 rfl rfl rfl rfl rfl rfl rfl ⟨rfl, rfl, rfl, rfl, rfl⟩ rfl rfl rfl rfl rfl (by kernel_rfl) Try.func3 (by kernel_rfl)
    (of_decide_eq_true (by kernel_rfl)) (by unfold Func.isWrapper; first | (rw [if_pos (by decide +kernel)]; kernel_rfl) | (rw [if_neg (by decide +kernel)]; exact ⟨rfl, rfl⟩))
    (fun os started H enc _ => liftedWords os started H enc)

theorem words_holds : Rows.SyntaxWordsSaid := overWords
#print axioms words_holds
end Go.Proofs.Ytojkpenjeglipaa
