import Derived.Test.YtojkpenjeglipaaYP1
import Derived.Test.YtojkpenjeglipaaYD10
import Derived.Test.YtojkpenjeglipaaYD11
import Derived.Test.YtojkpenjeglipaaYD2
set_option linter.unusedVariables false
set_option linter.unusedSimpArgs false
namespace Go.Ax

theorem runL_find {α : Type} (b : α → Bool) : ∀ (l : List α) (i : Nat) (u : Unit), ∃ v : Int, runL (ρ := Int) (fun _ i x => if b x then .inl (some (i : Int)) else .inr ()) (fun _ => some (-1)) l i u = some v ∧ (0 ≤ v ↔ l.any b = true)
  | [], i, u => ⟨-1, rfl, by simp⟩
  | x :: r, i, u => by
    rw [runL]
    cases h : b x
    · simp only [Bool.false_eq_true, if_false, List.any_cons, h, Bool.false_or]
      exact runL_find b r _ _
    · exact ⟨i, by simp, by simp [h]⟩

theorem IndexFunc_string_string_at {n : Nat} {l : List ByteArray} {fn1 : ByteArray → Option Bool} {b : ByteArray → Bool} (hn : l.length < n) (hs : Short l) (hf : ∀ x, x ∈ l → fn1 x = some (b x)) : ∃ v, d_slices_IndexFunc_string_string n l fn1 = some v ∧ (0 ≤ v ↔ l.any b = true) := by
  unfold d_slices_IndexFunc_string_string
  have := loop_run0 (l := l) (F := fun m (_ : Unit) v => d_slices_IndexFunc_string_string_l0 l fn1 m v) (g := fun _ i x => if b x then .inl (some (i : Int)) else .inr ()) (fin := fun _ => some (-1))
    (fun m i x u hx => by
      have hlt := lt_of_get hx
      show d_slices_IndexFunc_string_string_l0 l fn1 (m + 1) (i : Int) = _
      rw [d_slices_IndexFunc_string_string_l0, d_slices_IndexFunc_string_string_l0b, idxL_nat, hx]
      have h1 : (i : Int) < (l.length : Int) := by omega
      simp only [h1, decide_true, cond_true, Option.bind_some, hf x (List.mem_of_getElem? hx)]
      cases b x
      · simp only [cond_false, Bool.false_eq_true, if_false]; rw [wrap_succ (by omega)]
      · rfl)
    (fun m u => by
      show d_slices_IndexFunc_string_string_l0 l fn1 (m + 1) _ = _
      rw [d_slices_IndexFunc_string_string_l0, d_slices_IndexFunc_string_string_l0b]; simp) (m := n) hn ()
  rw [this]
  exact runL_find b l 0 ()
theorem ContainsFunc_string_string_at {n : Nat} {l : List ByteArray} {fn1 : ByteArray → Option Bool} {b : ByteArray → Bool} (hn : l.length < n) (hs : Short l) (hf : ∀ x, x ∈ l → fn1 x = some (b x)) : d_slices_ContainsFunc_string_string n l fn1 = some (l.any b) := by
  obtain ⟨v, h1, h2⟩ := IndexFunc_string_string_at hn hs hf
  rw [d_slices_ContainsFunc_string_string, h1]
  simp only [Option.bind_some]
  congr 1
  rw [Bool.eq_iff_iff, decide_eq_true_iff]
  exact h2

theorem Contains_at {n : Nat} {l : List ByteArray} (p : ByteArray) (hn : l.length < n) (hs : Short l) : d_slices_Contains_string_string n l p = some (l.any fun x => decide (p = x)) := by
  unfold d_slices_Contains_string_string d_slices_Index_string_string
  have := loop_run0 (l := l) (F := fun m (_ : Unit) v => d_slices_Index_string_string_l0 l p m v) (g := fun _ i x => if decide (p = x) then .inl (some (i : Int)) else .inr ()) (fin := fun _ => some (-1))
    (fun m i x u hx => by
      have hlt := lt_of_get hx
      show d_slices_Index_string_string_l0 l p (m + 1) (i : Int) = _
      rw [d_slices_Index_string_string_l0, d_slices_Index_string_string_l0b, idxL_nat, hx]
      have h1 : (i : Int) < (l.length : Int) := by omega
      simp only [h1, decide_true, cond_true, Option.bind_some]
      cases decide (p = x)
      · simp only [cond_false, Bool.false_eq_true, if_false]; rw [wrap_succ (by omega)]
      · rfl)
    (fun m u => by
      show d_slices_Index_string_string_l0 l p (m + 1) _ = _
      rw [d_slices_Index_string_string_l0, d_slices_Index_string_string_l0b]; simp) (m := n) hn ()
  rw [this]
  obtain ⟨v, h1, h2⟩ := runL_find (fun x => decide (p = x)) l 0 ()
  rw [h1]
  simp only [Option.bind_some]
  congr 1
  rw [Bool.eq_iff_iff, decide_eq_true_iff]
  exact h2

def reservedB (s : ByteArray) : Bool := d_syntax_words.any fun x => decide (s = x)
theorem Reserved_ev (s : ByteArray) : Ev (fun n => d_syntax_Reserved n s) (reservedB s) := ⟨50, fun n hn => by
  show d_syntax_Reserved n s = _
  rw [d_syntax_Reserved, Contains_at s (Nat.lt_of_lt_of_le (by decide) hn) (by decide)]
  rfl⟩
def freeB (s : ByteArray) : Bool := nameB s && !reservedB s
theorem NamedL_ev (l : List ByteArray) (hs : Short l) : Ev (fun n => d_schema_Named n l) (l.all nameB) := by
  obtain ⟨N, hN⟩ := Ev.all (l := l) (f := fun n x => d_schema_named n x) (r := nameB) fun x _ => named_ev x
  refine ⟨max N (l.length + 1), fun n hn => ?_⟩
  show d_schema_Named n l = _
  unfold d_schema_Named
  have := loop_run0 (l := l) (F := fun m (_ : Unit) v => d_schema_Named_l0 l n m v) (g := fun _ _ x => if nameB x then .inr () else .inl (some false)) (fin := fun _ => some true)
    (fun m i x u hx => by
      have hlt := lt_of_get hx
      show d_schema_Named_l0 l n (m + 1) (i : Int) = _
      rw [d_schema_Named_l0, d_schema_Named_l0b, idxL_nat, hx]
      have h1 : (i : Int) < (l.length : Int) := by omega
      simp only [h1, decide_true, cond_true, Option.bind_some, hN n (by omega) x (List.mem_of_getElem? hx)]
      cases nameB x
      · rfl
      · simp only [Bool.not_true, cond_false, if_true]; rw [wrap_succ (by omega)])
    (fun m u => by
      show d_schema_Named_l0 l n (m + 1) _ = _
      rw [d_schema_Named_l0, d_schema_Named_l0b]; simp) (m := n) (by omega) ()
  rw [this, runL_all]
theorem Free_ev (l : List ByteArray) (hs : Short l) : Ev (fun n => d_syntax_Free n l) (l.all freeB) := by
  obtain ⟨N, hN⟩ := NamedL_ev l hs
  obtain ⟨M, hM⟩ := Ev.all (l := l) (f := fun n x => d_syntax_Reserved n x) (r := reservedB) fun x _ => Reserved_ev x
  refine ⟨max (max N M) (l.length + 1), fun n hn => ?_⟩
  show d_syntax_Free n l = _
  have h1 := hN n (by omega)
  simp only at h1
  rw [d_syntax_Free, h1, Option.bind_some, ContainsFunc_string_string_at (b := reservedB) (by omega) hs (fun x hx => hM n (by omega) x hx)]
  simp only [Option.bind_some]
  have e : l.all freeB = (l.all nameB && !l.any reservedB) := by
    clear h1 hN hM hn hs
    induction l with
    | nil => rfl
    | cons x r ih => simp only [List.all_cons, List.any_cons, ih, freeB]; cases nameB x <;> cases reservedB x <;> simp
  rw [e]
  cases l.all nameB <;> rfl

/-! the document's -/
theorem refReserved_ev (s : ByteArray) : Ev (fun n => d_affluxref12_Reserved n s) (reservedB s) := ⟨50, fun n hn => by
  show d_affluxref12_Reserved n s = _
  unfold d_affluxref12_Reserved
  have hlen : d_syntax_words.length = 43 := by decide
  have := loop_run0 (l := d_syntax_words) (F := fun m (_ : Unit) v => d_affluxref12_Reserved_l0 s m v) (g := fun _ i x => if decide (x = s) then .inl (some true) else .inr ()) (fin := fun _ => some false)
    (fun m i x u hx => by
      have hlt := lt_of_get hx
      show d_affluxref12_Reserved_l0 s (m + 1) (i : Int) = _
      rw [d_affluxref12_Reserved_l0, d_affluxref12_Reserved_l0b]
      change (bif decide ((i : Int) < (d_syntax_words.length : Int)) then (idxL d_syntax_words (i : Int)).bind _ else _) = _
      rw [idxL_nat, hx]
      have h1 : (i : Int) < (d_syntax_words.length : Int) := by omega
      simp only [h1, decide_true, cond_true, Option.bind_some]
      cases decide (x = s)
      · simp only [cond_false, Bool.false_eq_true, if_false]; rw [wrap_succ (by omega)]
      · rfl)
    (fun m u => by
      show d_affluxref12_Reserved_l0 s (m + 1) _ = _
      rw [d_affluxref12_Reserved_l0, d_affluxref12_Reserved_l0b]
      change (bif decide ((d_syntax_words.length : Int) < (d_syntax_words.length : Int)) then _ else _) = _
      simp) (m := n) (by omega) ()
  rw [this]
  have key : ∀ (l : List ByteArray) (i : Nat) (u : Unit), runL (ρ := Bool) (fun _ i x => if decide (x = s) then .inl (some true) else .inr ()) (fun _ => some false) l i u = some (l.any fun x => decide (s = x)) := by
    intro l
    induction l with
    | nil => intro i u; simp [runL]
    | cons x r ih =>
      intro i u
      rw [runL]
      by_cases h : x = s
      · simp [h]
      · have h2 : ¬ s = x := fun e => h e.symm
        simp only [h, decide_false, Bool.false_eq_true, if_false, ih, List.any_cons, h2, Bool.false_or]
  rw [key]; rfl⟩

theorem refNamed_ev (s : ByteArray) : Ev (fun n => d_affluxref03_Named n s) (nameB s) := by
  refine ⟨18, fun n hn => ?_⟩
  show d_affluxref03_Named n s = _
  unfold d_affluxref03_Named d_affluxref03_Named_j0
  by_cases h0 : s.size = 0
  · simp [h0, nameB]
  · by_cases h16 : (16 : Int) < s.size
    · have : ¬ s.size ≤ 16 := by omega
      have h1 : ¬ (s.size : Int) < 1 := by omega
      simp [h1, h16, nameB, this]
    · have hle : s.size ≤ 16 := by omega
      have h1 : ¬ (s.size : Int) < 1 := by omega
      have hl := len_bytesL s
      simp only [h1, h16, decide_false, cond_false]
      have := loop_run0 (l := bytesL s) (F := fun m (_ : Unit) v => d_affluxref03_Named_l0 s m v) (g := fun _ i x => if (if i = 0 then d_schema_letter x else d_schema_part x) then .inr () else .inl (some false)) (fin := fun _ => some true)
        (fun m i x u hx => by
          have hlt := lt_of_get hx
          show d_affluxref03_Named_l0 s (m + 1) (i : Int) = _
          rw [d_affluxref03_Named_l0, d_affluxref03_Named_l0b, idxS_nat, hx]
          have h1 : (i : Int) < (s.size : Int) := by omega
          simp only [h1, decide_true, cond_true, Option.bind_some]
          have hw := wrap_succ (i := i) (by omega)
          simp only [d_affluxref03_Named_j1, hw, d_schema_letter, d_schema_part]
          by_cases hi : i = 0
          · subst hi
            by_cases h97 : (97 : Int) ≤ x <;> by_cases h122 : x ≤ (122 : Int) <;> simp [h97, h122]
          · have hi' : ¬ (i : Int) = 0 := by omega
            simp only [hi, hi', if_false, decide_false, cond_false]
            by_cases h97 : (97 : Int) ≤ x <;> by_cases h122 : x ≤ (122 : Int) <;> by_cases h48 : (48 : Int) ≤ x <;> by_cases h57 : x ≤ (57 : Int) <;> by_cases h95 : x = (95 : Int) <;> simp [h97, h122, h48, h57, h95])
        (fun m u => by
          show d_affluxref03_Named_l0 s (m + 1) _ = _
          rw [d_affluxref03_Named_l0, d_affluxref03_Named_l0b, hl]; simp) (m := n) (by omega) ()
      rw [this]
      have key : ∀ (l : List Int) (i : Nat) (u : Unit), i ≠ 0 → runL (ρ := Bool) (fun _ i x => if (if i = 0 then d_schema_letter x else d_schema_part x) then .inr () else .inl (some false)) (fun _ => some true) l i u = some (l.all d_schema_part) := by
        intro l
        induction l with
        | nil => intro i u _; rfl
        | cons x r ih =>
          intro i u hi
          rw [runL]
          simp only [hi, if_false, List.all_cons]
          cases d_schema_part x
          · simp
          · simp only [if_true, Bool.true_and]; exact ih _ _ (by omega)
      unfold nameB
      cases hb : bytesL s with
      | nil => rw [hb] at hl; simp at hl; omega
      | cons c r =>
        rw [runL]
        simp only [if_true, List.all_cons]
        have hlp : d_schema_letter c = true → d_schema_part c = true := fun h => by simp [d_schema_part, h]
        cases hc : d_schema_letter c
        · simp
        · simp only [if_true, hlp hc, Bool.true_and, key r 1 () (by omega)]
          simp [h0, hle]
theorem refFree_ev (s : ByteArray) : Ev (fun n => d_affluxref12_Free n s) (freeB s) := by
  obtain ⟨N, hN⟩ := refNamed_ev s
  obtain ⟨M, hM⟩ := refReserved_ev s
  refine ⟨max N M, fun n hn => ?_⟩
  show d_affluxref12_Free n s = _
  have h1 := hN n (by omega)
  have h2 := hM n (by omega)
  simp only at h1 h2
  rw [d_affluxref12_Free, h1, h2]
  simp only [Option.bind_some, freeB]
  cases nameB s <;> rfl
end Go.Ax
