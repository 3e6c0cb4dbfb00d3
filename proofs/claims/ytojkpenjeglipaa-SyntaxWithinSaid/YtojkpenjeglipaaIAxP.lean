import Derived.Test.YtojkpenjeglipaaIAxU
set_option linter.unusedVariables false
set_option linter.unusedSimpArgs false
namespace Go.Ax
def Ev {β : Type} (f : Nat → Option β) (r : β) : Prop := ∃ N, ∀ n, N ≤ n → f n = some r
theorem Ev.bind {β γ : Type} {f : Nat → Option β} {r : β} {k : Nat → β → Option γ} {v : γ} (h : Ev f r) (hk : Ev (fun n => k n r) v) : Ev (fun n => (f n).bind (k n)) v := by
 obtain ⟨N, h⟩ := h
 obtain ⟨M, hk⟩ := hk
 exact ⟨max N M, fun n hn => by show (f n).bind (k n) = _; rw [h n (by omega)]; exact hk n (by omega)⟩
theorem Ev.const {β : Type} (r : β) : Ev (fun _ => some r) r := ⟨0, fun _ _ => rfl⟩
theorem Ev.of {β : Type} {f g : Nat → Option β} {r : β} (h : Ev g r) (e : ∀ n, f n = g n) : Ev f r := by
 obtain ⟨N, h⟩ := h
 exact ⟨N, fun n hn => (e n).trans (h n hn)⟩
theorem Ev.at {β : Type} {f : Nat → Option β} {r : β} (h : Ev f r) : ∃ n, f n = some r := by
 obtain ⟨N, h⟩ := h
 exact ⟨N, h N (Nat.le_refl _)⟩
theorem Ev.all {α β : Type} {f : Nat → α → Option β} {r : α → β} : ∀ {l : List α}, (∀ x, x ∈ l → Ev (fun n => f n x) (r x)) → ∃ N, ∀ n, N ≤ n → ∀ x, x ∈ l → f n x = some (r x)
 | [], _ => ⟨0, fun n hn x hx => by cases hx⟩
 | a :: l, h => by
   obtain ⟨N, h1⟩ := h a (by simp)
   obtain ⟨M, h2⟩ := Ev.all (l := l) fun x hx => h x (by simp [hx])
   refine ⟨max N M, fun n hn x hx => ?_⟩
   rcases List.mem_cons.1 hx with e | e
   · subst e; exact h1 n (by omega)
   · exact h2 n (by omega) x e
theorem Bn {α : Type} (l : List α) (i : Nat) : Dh l (i : Int) = l[i]? := by simp [Dh]
theorem Ys (b : ByteArray) (i : Nat) : Al5 b (i : Int) = (DW b)[i]? := by
 unfold Al5 DW Sb
 by_cases h : i < b.size
 · have hs : i < b.data.size := h
   simp [hs, h]
 · have hs : ¬ i < b.data.size := h
   simp [hs, h]
theorem Sk (b : ByteArray) : (DW b).length = b.size := by
 simp [DW]
theorem Bj {i : Nat} (h : i < 9223372036854775807) : IntKind.wrap .i64 ((i : Int) + 1) = ((i + 1 : Nat) : Int) := by
 rw [DZ (by omega) (by omega)]; omega
def runL {α σ ρ : Type} (g : σ → Nat → α → Option ρ ⊕ σ) (fin : σ → Option ρ) : List α → Nat → σ → Option ρ
 | [], _, s => fin s
 | x :: r, i, s => match g s i x with
   | .inl v => v
   | .inr s' => runL g fin r (i + 1) s'
theorem Ak2 {α σ ρ : Type} {l : List α} {F : Nat → σ → Int → Option ρ} {g : σ → Nat → α → Option ρ ⊕ σ} {fin : σ → Option ρ}
   (hstep : ∀ (m i : Nat) (x : α) (s : σ), l[i]? = some x → F (m + 1) s (i : Int) = match g s i x with | .inl v => v | .inr s' => F m s' ((i + 1 : Nat) : Int))
   (hend : ∀ (m : Nat) (s : σ), F (m + 1) s (l.length : Int) = fin s) : ∀ (k m i : Nat) (s : σ), i + k = l.length → k < m → F m s (i : Int) = runL g fin (l.drop i) i s
 | 0, m, i, s, hi, hm => by
   cases m with
   | zero => omega
   | succ m =>
     have : i = l.length := by omega
     subst this
     rw [hend, List.drop_length, runL]
 | k + 1, m, i, s, hi, hm => by
   cases m with
   | zero => omega
   | succ m =>
     have hlt : i < l.length := by omega
     rw [hstep m i _ s (List.getElem?_eq_getElem hlt), List.drop_eq_getElem_cons hlt, runL]
     cases hg : g s i l[i] with
     | inl v => rfl
     | inr s' => exact Ak2 hstep hend k m (i + 1) s' (by omega) (by omega)
theorem BW {α σ ρ : Type} {l : List α} {F : Nat → σ → Int → Option ρ} {g : σ → Nat → α → Option ρ ⊕ σ} {fin : σ → Option ρ}
   (hstep : ∀ (m i : Nat) (x : α) (s : σ), l[i]? = some x → F (m + 1) s (i : Int) = match g s i x with | .inl v => v | .inr s' => F m s' ((i + 1 : Nat) : Int))
   (hend : ∀ (m : Nat) (s : σ), F (m + 1) s (l.length : Int) = fin s) {m : Nat} (hm : l.length < m) (s : σ) : F m s 0 = runL g fin l 0 s :=
 Ak2 hstep hend l.length m 0 s (by omega) hm
theorem BN {α : Type} {l : List α} {i : Nat} {x : α} (h : l[i]? = some x) : i < l.length := (List.getElem?_eq_some_iff.1 h).1
structure LeO {β : Type} (x y : Option β) : Prop where
 ap : ∀ r, x = some r → y = some r
theorem LeO.refl {β : Type} (x : Option β) : LeO x x := ⟨fun _ h => h⟩
theorem LeO.none {β : Type} (y : Option β) : LeO Option.none y := ⟨fun _ h => by cases h⟩
theorem LeO.cond {β : Type} {b : Bool} {x x' y y' : Option β} (h : LeO x x') (k : LeO y y') : LeO (bif b then x else y) (bif b then x' else y') := by cases b <;> assumption
theorem LeO.bind {β γ : Type} {x x' : Option β} {k k' : β → Option γ} (h : LeO x x') (hk : ∀ v, LeO (k v) (k' v)) : LeO (x.bind k) (x'.bind k') := ⟨fun r hr => by
 obtain ⟨v, hv, hr⟩ := bind_some hr
 rw [h.ap v hv]
 exact (hk v).ap r hr⟩
theorem Ev.mono {β : Type} {f : Nat → Option β} (h : ∀ n n', n ≤ n' → LeO (f n) (f n')) {n : Nat} {r : β} (hr : f n = some r) : Ev f r := ⟨n, fun m hm => (h n m hm).ap r hr⟩
theorem Be {β : Type} (x : Option β) : LeO x x := LeO.refl x
theorem CK {β : Type} {b : Bool} {x x' y y' : Option β} (h : LeO x x') (k : LeO y y') : LeO (bif b then x else y) (bif b then x' else y') := LeO.cond h k
theorem CJ {β γ : Type} {x x' : Option β} {k k' : β → Option γ} (h : LeO x x') (hk : ∀ v, LeO (k v) (k' v)) : LeO (x.bind k) (x'.bind k') := LeO.bind h hk
end Go.Ax
