import Derived.Test.YtojkpenjeglipaaGreatTAxU
set_option linter.unusedVariables false
namespace Go.Ax
def Ev {β : Type} (f : Nat → Option β) (r : β) : Prop := ∃ N, ∀ n, N ≤ n → f n = some r
theorem Ev.bind {β γ : Type} {f : Nat → Option β} {r : β} {k : Nat → β → Option γ} {v : γ} (h : Ev f r) (hk : Ev (fun n => k n r) v) : Ev (fun n => (f n).bind (k n)) v := by
 obtain ⟨N, h⟩ := h
 obtain ⟨M, hk⟩ := hk
 exact ⟨max N M, fun n hn => by show (f n).bind (k n) = _; rw [h n (by omega)]; exact hk n (by omega)⟩
theorem Ev.const {β : Type} (r : β) : Ev (fun _ => some r) r := ⟨0, fun _ _ => rfl⟩
theorem Ev.of {β : Type} {f g : Nat → Option β} {r : β} (h : Ev g r) (e : ∀ n, f n = g n) : Ev f r := by
 obtain ⟨N, h⟩ := h
 exact ⟨N, fun n hn => (e n).trans (h n hn)⟩
theorem Ev.at {β : Type} {f : Nat → Option β} {r : β} (h : Ev f r) : ∃ n, f n = some r := by
 obtain ⟨N, h⟩ := h
 exact ⟨N, h N (Nat.le_refl _)⟩
theorem Ev.all {α β : Type} {f : Nat → α → Option β} {r : α → β} : ∀ {l : List α}, (∀ x, x ∈ l → Ev (fun n => f n x) (r x)) → ∃ N, ∀ n, N ≤ n → ∀ x, x ∈ l → f n x = some (r x)
 | [], _ => ⟨0, fun n hn x hx => by cases hx⟩
 | a :: l, h => by
   obtain ⟨N, h1⟩ := h a (by simp)
   obtain ⟨M, h2⟩ := Ev.all (l := l) fun x hx => h x (by simp [hx])
   refine ⟨max N M, fun n hn x hx => ?_⟩
   rcases List.mem_cons.1 hx with e | e
   · subst e; exact h1 n (by omega)
   · exact h2 n (by omega) x e
theorem BC {α : Type} (l : List α) (i : Nat) : Dw l (i : Int) = l[i]? := by simp [Dw]
theorem Be7 (b : ByteArray) (i : Nat) : BF1 b (i : Int) = (DV b)[i]? := by
 unfold BF1 DV YD
 by_cases h : i < b.size
 · have hs : i < b.data.size := h
   simp [hs, h]
 · have hs : ¬ i < b.data.size := h
   simp [hs, h]
theorem As2 (b : ByteArray) : (DV b).length = b.size := by
 simp [DV]
theorem Bk {i : Nat} (h : i < 9223372036854775807) : IntKind.wrap .i64 ((i : Int) + 1) = ((i + 1 : Nat) : Int) := by
 rw [EH (by omega) (by omega)]; omega
def ID {α σ ρ : Type} (g : σ → Nat → α → Option ρ ⊕ σ) (fin : σ → Option ρ) : List α → Nat → σ → Option ρ
 | [], _, s => fin s
 | x :: r, i, s => match g s i x with
   | .inl v => v
   | .inr s' => ID g fin r (i + 1) s'
theorem BA6 {α σ ρ : Type} {l : List α} {F : Nat → σ → Int → Option ρ} {g : σ → Nat → α → Option ρ ⊕ σ} {fin : σ → Option ρ}
   (hstep : ∀ (m i : Nat) (x : α) (s : σ), l[i]? = some x → F (m + 1) s (i : Int) = match g s i x with | .inl v => v | .inr s' => F m s' ((i + 1 : Nat) : Int))
   (hend : ∀ (m : Nat) (s : σ), F (m + 1) s (l.length : Int) = fin s) : ∀ (k m i : Nat) (s : σ), i + k = l.length → k < m → F m s (i : Int) = ID g fin (l.drop i) i s
 | 0, m, i, s, hi, hm => by
   cases m with
   | zero => omega
   | succ m =>
     have : i = l.length := by omega
     subst this
     rw [hend, List.drop_length, ID]
 | k + 1, m, i, s, hi, hm => by
   cases m with
   | zero => omega
   | succ m =>
     have hlt : i < l.length := by omega
     rw [hstep m i _ s (List.getElem?_eq_getElem hlt), List.drop_eq_getElem_cons hlt, ID]
     cases hg : g s i l[i] with
     | inl v => rfl
     | inr s' => exact BA6 hstep hend k m (i + 1) s' (by omega) (by omega)
theorem CT {α σ ρ : Type} {l : List α} {F : Nat → σ → Int → Option ρ} {g : σ → Nat → α → Option ρ ⊕ σ} {fin : σ → Option ρ}
   (hstep : ∀ (m i : Nat) (x : α) (s : σ), l[i]? = some x → F (m + 1) s (i : Int) = match g s i x with | .inl v => v | .inr s' => F m s' ((i + 1 : Nat) : Int))
   (hend : ∀ (m : Nat) (s : σ), F (m + 1) s (l.length : Int) = fin s) {m : Nat} (hm : l.length < m) (s : σ) : F m s 0 = ID g fin l 0 s :=
 BA6 hstep hend l.length m 0 s (by omega) hm
theorem Cs {α : Type} {l : List α} {i : Nat} {x : α} (h : l[i]? = some x) : i < l.length := (List.getElem?_eq_some_iff.1 h).1
structure LeO {β : Type} (x y : Option β) : Prop where
 ap : ∀ r, x = some r → y = some r
theorem LeO.refl {β : Type} (x : Option β) : LeO x x := ⟨fun _ h => h⟩
theorem LeO.none {β : Type} (y : Option β) : LeO Option.none y := ⟨fun _ h => by cases h⟩
theorem LeO.cond {β : Type} {b : Bool} {x x' y y' : Option β} (h : LeO x x') (k : LeO y y') : LeO (bif b then x else y) (bif b then x' else y') := by cases b <;> assumption
theorem LeO.bind {β γ : Type} {x x' : Option β} {k k' : β → Option γ} (h : LeO x x') (hk : ∀ v, LeO (k v) (k' v)) : LeO (x.bind k) (x'.bind k') := ⟨fun r hr => by
 obtain ⟨v, hv, hr⟩ := bind_some hr
 rw [h.ap v hv]
 exact (hk v).ap r hr⟩
theorem Ev.mono {β : Type} {f : Nat → Option β} (h : ∀ n n', n ≤ n' → LeO (f n) (f n')) {n : Nat} {r : β} (hr : f n = some r) : Ev f r := ⟨n, fun m hm => (h n m hm).ap r hr⟩
theorem EZ {β : Type} (x : Option β) : LeO x x := LeO.refl x
theorem Pt {β : Type} {b : Bool} {x x' y y' : Option β} (h : LeO x x') (k : LeO y y') : LeO (bif b then x else y) (bif b then x' else y') := LeO.cond h k
theorem Pj {β γ : Type} {x x' : Option β} {k k' : β → Option γ} (h : LeO x x') (hk : ∀ v, LeO (k v) (k' v)) : LeO (x.bind k) (x'.bind k') := LeO.bind h hk
end Go.Ax
