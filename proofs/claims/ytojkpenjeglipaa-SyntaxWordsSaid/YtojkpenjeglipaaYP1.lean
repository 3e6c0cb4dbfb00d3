import Derived.Test.YtojkpenjeglipaaAxP
import Derived.Test.YtojkpenjeglipaaYD1
import Derived.Test.YtojkpenjeglipaaYD0
set_option linter.unusedVariables false
set_option linter.unusedSimpArgs false
namespace Go.Ax
attribute [local simp] Bool.cond_decide

/-- A list short enough for its places to be counted. -/
abbrev Short {α : Type} (l : List α) : Prop := l.length ≤ 9223372036854775807

def nameB (s : ByteArray) : Bool := decide (s.size ≠ 0) && (decide (s.size ≤ 16) && ((match bytesL s with | [] => false | c :: _ => d_schema_letter c) && (bytesL s).all d_schema_part))

theorem runL_all {α : Type} (p : α → Bool) : ∀ (l : List α) (i : Nat) (u : Unit), runL (ρ := Bool) (fun _ _ x => if p x then .inr () else .inl (some false)) (fun _ => some true) l i u = some (l.all p)
  | [], i, u => rfl
  | x :: r, i, u => by
    rw [runL]
    cases h : p x
    · simp [h]
    · simp only [if_true, List.all_cons, h, Bool.true_and]
      exact runL_all p r _ _

theorem named_ev (s : ByteArray) : Ev (fun n => d_schema_named n s) (nameB s) := by
  refine ⟨18, fun n hn => ?_⟩
  unfold d_schema_named d_schema_named_j1 d_schema_named_j0
  by_cases h0 : s = (⟨#[]⟩ : ByteArray)
  · subst h0; rfl
  have hs : s.size ≠ 0 := fun e => h0 (bytes_ext (by
    have : s.data.size = 0 := e
    have h2 := Array.eq_empty_of_size_eq_zero this
    simp [h2]))
  by_cases h16 : (16 : Int) < s.size
  · have : ¬ s.size ≤ 16 := by omega
    simp [h0, h16, nameB, this]
  · have hle : s.size ≤ 16 := by omega
    have hl := len_bytesL s
    have e0 : idxS s 0 = (bytesL s)[0]? := idxS_nat s 0
    cases hb : bytesL s with
    | nil => rw [hb] at hl; simp at hl; omega
    | cons c r =>
      have hloop : d_schema_named_l0 s n 0 = some ((bytesL s).all d_schema_part) := by
        have := loop_run0 (l := bytesL s) (F := fun m (_ : Unit) v => d_schema_named_l0 s m v) (g := fun _ _ x => if d_schema_part x then .inr () else .inl (some false)) (fin := fun _ => some true)
          (fun m i x u hx => by
            have hlt := lt_of_get hx
            show d_schema_named_l0 s (m + 1) (i : Int) = _
            rw [d_schema_named_l0, d_schema_named_l0b, idxL_nat, hx]
            have : (i : Int) < ((bytesL s).length : Int) := by omega
            simp only [this, decide_true, cond_true, Option.bind_some]
            cases d_schema_part x
            · rfl
            · simp only [Bool.not_true, cond_false, if_true]
              rw [wrap_succ (by omega)])
          (fun m u => by
            show d_schema_named_l0 s (m + 1) _ = _
            rw [d_schema_named_l0, d_schema_named_l0b]; simp) (m := n) (by omega) ()
        rw [this, runL_all]
      rw [hb] at e0 hloop
      simp only [List.getElem?_cons_zero] at e0
      simp only [h0, h16, decide_false, cond_false, e0, Option.bind_some, nameB, hb]
      rw [hloop]
      cases d_schema_letter c <;> simp [hs, hle]
end Go.Ax
