import Derived.Test.YtojkpenjeglipaaIYP7
import Derived.Test.YtojkpenjeglipaaIYM
import Derived.Test.YtojkpenjeglipaaIYD17
import Derived.Test.YtojkpenjeglipaaIYD18
set_option linter.unusedVariables false
set_option linter.unusedSimpArgs false
namespace Go.Ax
theorem Am7 {σ ρ : Type} {F : Nat → σ → Int → Option ρ} (Inv : Nat → σ → Prop) (P : Option ρ → Prop) (B : Nat)
   (hstep : ∀ (m i : Nat) (s : σ), Inv i s → i ≤ B → P (F (m + 1) s (i : Int)) ∨ (i < B ∧ ∃ s', Inv (i + 1) s' ∧ F (m + 1) s (i : Int) = F m s' ((i + 1 : Nat) : Int))) : ∀ (k m i : Nat) (s : σ), i + k = B → k < m → Inv i s → P (F m s (i : Int))
 | 0, m, i, s, hi, hm, hinv => by
   obtain ⟨m, rfl⟩ : ∃ q, m = q + 1 := ⟨m - 1, by omega⟩
   rcases hstep m i s hinv (by omega) with h | ⟨h, _⟩
   · exact h
   · omega
 | k + 1, m, i, s, hi, hm, hinv => by
   obtain ⟨m, rfl⟩ : ∃ q, m = q + 1 := ⟨m - 1, by omega⟩
   rcases hstep m i s hinv (by omega) with h | ⟨_, s', h1, h2⟩
   · exact h
   · rw [h2]; exact Am7 Inv P B hstep k m (i + 1) s' (by omega) (by omega) h1
theorem loop_inv0 {σ ρ : Type} {F : Nat → σ → Int → Option ρ} (Inv : Nat → σ → Prop) (P : Option ρ → Prop) (B : Nat)
   (hstep : ∀ (m i : Nat) (s : σ), Inv i s → i ≤ B → P (F (m + 1) s (i : Int)) ∨ (i < B ∧ ∃ s', Inv (i + 1) s' ∧ F (m + 1) s (i : Int) = F m s' ((i + 1 : Nat) : Int))) {m : Nat} (hm : B < m) {s : σ} (h0 : Inv 0 s) : P (F m s 0) := Am7 Inv P B hstep B m 0 s (by omega) hm h0
theorem Aq2 (k : Int) : 0 ≤ IntKind.wrap .u64 k ∧ IntKind.wrap .u64 k < 18446744073709551616 := by
 simp [IntKind.wrap, IntKind.bits, IntKind.signed]
 omega
theorem Xo (k : Int) (a : Nat) (ha : a ≤ 50) : (a = 0 ∧ Hi k (a : Int) = some (-1)) ∨ ∃ j : Nat, j < a ∧ Hi k (a : Int) = some (j : Int) := by
 unfold Hi
 by_cases h : a = 0
 · left; subst h; exact ⟨rfl, rfl⟩
 · right
   have h0 : ¬ (a : Int) = 0 := by omega
   have hu : IntKind.wrap .u64 (a : Int) = (a : Int) := by
     simp [IntKind.wrap, IntKind.bits, IntKind.signed]; omega
   rw [hu]
   have hk := Aq2 k
   generalize IntKind.wrap .u64 k = q at hk ⊢
   have hm0 : 0 ≤ Int.tmod q (a : Int) := Int.tmod_nonneg _ hk.1
   have hm1 : Int.tmod q (a : Int) < (a : Int) := Int.tmod_lt_of_pos _ (by omega)
   generalize Int.tmod q (a : Int) = r at hm0 hm1 ⊢
   have e1 : IntKind.wrap .i64 ((a : Int) - 1) = (a : Int) - 1 := DZ (by omega) (by omega)
   have e2 : IntKind.wrap .i64 r = r := DZ (by omega) (by omega)
   have e3 : IntKind.wrap .i64 ((a : Int) - 1 - r) = (a : Int) - 1 - r := DZ (by omega) (by omega)
   refine ⟨((a : Int) - 1 - r).toNat, by omega, ?_⟩
   simp only [h0, decide_false, cond_false, VX, ne_eq, not_false_eq_true, decide_true, if_true, Option.bind_some, e1, e2, e3]
   congr 1
   omega
def Hf (e : TE) : Int := (B2 (nE e) (dE e)).1
def MD (e : TE) : Int := (B2 (nE e) (dE e)).2
def C1 (e : TS) : Int := (B2 (nS e) (dS e)).1
def ES (e : TS) : Int := (B2 (nS e) (dS e)).2
structure InvE (es : List TE) (ns ds : List Int) : Prop where
 n : ns = es.map Hf
 d : ds = es.map MD
 e : ∀ (i : Nat) (x : TE), es[i]? = some x → LimE x ∧ dE x ≤ i + 1
structure InvS (ss : List TS) (ns ds : List Int) : Prop where
 n : ns = ss.map C1
 d : ds = ss.map ES
 e : ∀ (i : Nat) (x : TS), ss[i]? = some x → LimS x ∧ dS x ≤ i + 60
def Aa1 (n d : Int) (N D : Nat) : Prop := (N < 1000 → n = N ∧ d = D) ∧ (1000 ≤ N → 1000 ≤ n) ∧ 0 ≤ n ∧ 0 ≤ d ∧ d ≤ 1001
theorem Aa1.told {n d : Int} {N D : Nat} (h : Aa1 n d N D) (hd : D ≤ 900) : Du n d = B2 N D := by
 unfold Du L5 B2
 by_cases hN : N < 1000
 · obtain ⟨h1, h2⟩ := h.1 hN
   have e1 : ¬ (1000 : Int) ≤ n := by omega
   have e2 : ¬ (1000 : Int) ≤ d := by omega
   have e3 : ¬ (1000 ≤ N ∨ 1000 ≤ D) := by omega
   simp only [e1, e2, e3, decide_false, cond_false, if_false]
   rw [h1, h2]
 · have := h.2.1 (by omega)
   have e3 : 1000 ≤ N ∨ 1000 ≤ D := by omega
   simp [this, e3]
theorem NV (N D : Nat) : 0 ≤ (B2 N D).1 ∧ (B2 N D).1 ≤ 1000 ∧ 0 ≤ (B2 N D).2 ∧ (B2 N D).2 ≤ 1000 := by
 unfold B2; split
 · exact ⟨by decide, by decide, by decide, by decide⟩
 · exact ⟨by simp, by simp; omega, by simp, by simp; omega⟩
theorem Aa1.add {n d : Int} {N D K E : Nat} (h : Aa1 n d N D) (hn : n ≤ 100000) (hD : D ≤ 900) (hE : E ≤ 900) : Aa1 (IntKind.wrap .i64 (n + (B2 K E).1)) (max d (IntKind.wrap .i64 ((B2 K E).2 + 1))) (N + K) (max D (E + 1)) := by
 have b := NV K E
 obtain ⟨h1, h2, h3, h4, h5⟩ := h
 have e1 : IntKind.wrap .i64 (n + (B2 K E).1) = n + (B2 K E).1 := DZ (by omega) (by omega)
 have e2 : IntKind.wrap .i64 ((B2 K E).2 + 1) = (B2 K E).2 + 1 := DZ (by omega) (by omega)
 rw [e1, e2]
 have t1 : K < 1000 → (B2 K E).1 = K ∧ (B2 K E).2 = E := fun hk => by
   unfold B2; rw [if_neg (by omega)]; exact ⟨rfl, rfl⟩
 have t2 : 1000 ≤ K → (B2 K E).1 = 1000 := fun hk => by
   unfold B2; rw [if_pos (by omega)]
 refine ⟨fun hlt => ?_, fun hge => ?_, by omega, by omega, by omega⟩
 · have := h1 (by omega); have := t1 (by omega); omega
 · by_cases hN : N < 1000
   · by_cases hK : K < 1000
     · have := h1 hN; have := t1 hK; omega
     · have := t2 (by omega); omega
   · have := h2 (by omega); omega
theorem FU {α : Type} {b : Nat} {l ys : List α} (h : l.length + ys.length ≤ 1000) (hb : b ≤ 1000) : Gq b l ys = some (l ++ ys) := by
 unfold Gq
 rw [if_pos]
 calc (l.length + ys.length) * b ≤ 1000 * 1000 := Nat.mul_le_mul h hb
   _ ≤ _ := by decide
theorem Al3 {α : Type} {P : Nat → α → Prop} {l : List α} {x : α} (h : ∀ i y, l[i]? = some y → P i y) (hx : P l.length x) : ∀ i y, (l ++ [x])[i]? = some y → P i y := fun i y hy => by
 by_cases hi : i < l.length
 · rw [List.getElem?_append_left hi] at hy; exact h i y hy
 · rw [List.getElem?_append_right (by omega)] at hy
   have : i = l.length := by
     have := (List.getElem?_eq_some_iff.1 hy).1
     simp at this; omega
   subst this
   simp at hy; subst hy; exact hx
theorem OB {α : Type} (N : α → Nat) (l : List α) (x : α) : sumN N (l ++ [x]) = sumN N l + N x := by rw [Qp]; simp [sumN]
theorem NR {α : Type} (N : α → Nat) (l : List α) (x : α) : maxD N (l ++ [x]) = max (maxD N l) (N x) := by rw [Ao0]; simp [maxD]
theorem Jj {α : Type} {D : α → Nat} {b : Nat} : ∀ {l : List α}, (∀ x, x ∈ l → D x ≤ b) → maxD D l ≤ b
 | [], _ => by simp [maxD]
 | x :: r, h => by rw [maxD]; have := h x (by simp); have := Jj (l := r) fun y hy => h y (by simp [hy]); omega
structure KidsE (i : Nat) (k : Nat) (s : List TE × Int × Int) : Prop where
 len : s.1.length ≤ k
 ok : ∀ a, a ∈ s.1 → LimE a ∧ dE a ≤ i
 acc : Aa1 s.2.1 s.2.2 (sumN nE s.1 + 1) (maxD dE s.1 + 1)
 small : s.2.1 ≤ 1 + 1000 * k
theorem AC6 {es : List TE} {ns ds : List Int} (hinv : InvE es ns ds) (hlen : es.length < 50) {x : TLeaf} {rec : List TE → List Int → List Int → Int → Option TTree} {n : Nat} (hn : 10 < n) :
   ∃ e, InvE (es ++ [e]) (ns ++ [Hf e]) (ds ++ [MD e]) ∧ CM es ns ds (es.length : Int) rec x n [] (1 : Int) (1 : Int) (0 : Int) = rec (es ++ [e]) (ns ++ [Hf e]) (ds ++ [MD e]) ((es.length + 1 : Nat) : Int) := by
 refine loop_inv0 (F := fun m (s : List TE × Int × Int) v => CM es ns ds (es.length : Int) rec x m s.1 s.2.1 s.2.2 v) (Inv := KidsE es.length)
   (P := fun v => ∃ e, InvE (es ++ [e]) (ns ++ [Hf e]) (ds ++ [MD e]) ∧ v = rec (es ++ [e]) (ns ++ [Hf e]) (ds ++ [MD e]) ((es.length + 1 : Nat) : Int)) 4 ?_ (m := n) (by omega) (s := ([], 1, 1)) ⟨by simp, fun a h => (by cases h), ⟨fun _ => by simp [sumN, maxD], fun h => by simp [sumN] at h, by simp, by simp, by simp⟩, by simp⟩
 intro m k s hs hk
 obtain ⟨args, c, d⟩ := s
 have hfin : ∃ e, InvE (es ++ [e]) (ns ++ [Hf e]) (ds ++ [MD e]) ∧ Gr es ns ds (es.length : Int) rec x args c d = rec (es ++ [e]) (ns ++ [Hf e]) (ds ++ [MD e]) ((es.length + 1 : Nat) : Int) := by
   have hmax : maxD dE args ≤ es.length := Jj fun a ha => (hs.ok a ha).2
   have ht := hs.acc.told (by simp only; omega)
   simp only at ht
   refine ⟨⟨x.Op, x.N, x.S, x.Name, x.Src, args⟩, ⟨?_, ?_, ?_⟩, ?_⟩
   · rw [hinv.n]; simp
   · rw [hinv.d]; simp
   · refine Al3 (P := fun i x => LimE x ∧ dE x ≤ i + 1) hinv.e ⟨LimE.mk _ (by have := hs.len; simp only at this ⊢; omega) (fun a ha => (hs.ok a ha).1), ?_⟩
     rw [Ap8]; simp only; omega
   · have l1 : ns.length = es.length := by rw [hinv.n]; simp
     have l2 : ds.length = es.length := by rw [hinv.d]; simp
     rw [Gr, FU (by simp; omega) (by decide), Option.bind_some, FU (by simp; omega) (by decide), Option.bind_some, FU (by simp; omega) (by decide), Option.bind_some, Bj (by omega), ht]
     have e1 : Hf ⟨x.Op, x.N, x.S, x.Name, x.Src, args⟩ = (B2 (sumN nE args + 1) (maxD dE args + 1)).1 := by rw [Hf, Am9, Ap8]
     have e2 : MD ⟨x.Op, x.N, x.S, x.Name, x.Src, args⟩ = (B2 (sumN nE args + 1) (maxD dE args + 1)).2 := by rw [MD, Am9, Ap8]
     rw [e1, e2]
 show (∃ e, _ ∧ CM es ns ds (es.length : Int) rec x (m + 1) args c d (k : Int) = _) ∨ _
 rw [CM, HH]
 by_cases hk2 : (k : Int) < (x.Kids.length : Int)
 · by_cases hk4 : (k : Int) < 4
   · right
     refine ⟨by omega, ?_⟩
     have hkl : k < x.Kids.length := by omega
     simp only [hk2, hk4, decide_true, cond_true, Fd, Bn, List.getElem?_eq_getElem hkl, Option.bind_some]
     have hwk := Bj (i := k) (by omega)
     rcases Xo x.Kids[k] es.length (by omega) with ⟨h0, hp⟩ | ⟨j, hj, hp⟩
     · refine ⟨(args, c, d), ⟨by have := hs.len; simp only at this ⊢; omega, hs.ok, hs.acc, by have := hs.small; simp only at this ⊢; omega⟩, ?_⟩
       rw [hp]
       simp only [Option.bind_some, show ¬ (0 : Int) ≤ -1 by decide, decide_false, cond_false, hwk]
     · have hje := hinv.e j es[j] (List.getElem?_eq_getElem hj)
       have hnj : ns[j]? = some (Hf es[j]) := by rw [hinv.n, List.getElem?_map, List.getElem?_eq_getElem hj]; rfl
       have hdj : ds[j]? = some (MD es[j]) := by rw [hinv.d, List.getElem?_map, List.getElem?_eq_getElem hj]; rfl
       have hsl := hs.len
       have hss := hs.small
       simp only at hsl hss
       have hmax : maxD dE args ≤ es.length := Jj fun a ha => (hs.ok a ha).2
       have hacc := hs.acc.add (K := nE es[j]) (E := dE es[j]) (by simp only; omega) (by simp only; omega) (by omega)
       have hb := NV (nE es[j]) (dE es[j])
       refine ⟨(args ++ [es[j]], IntKind.wrap .i64 (c + Hf es[j]), max d (IntKind.wrap .i64 (MD es[j] + 1))), ⟨by simp; omega, fun a ha => ?_, ?_, ?_⟩, ?_⟩
       · rcases List.mem_append.1 ha with ha | ha
         · exact hs.ok a ha
         · have : a = es[j] := by simpa using ha
           subst this; exact ⟨hje.1, by omega⟩
       · simp only [OB, NR]
         have e1 : sumN nE args + nE es[j] + 1 = sumN nE args + 1 + nE es[j] := by omega
         have e2 : max (maxD dE args) (dE es[j]) + 1 = max (maxD dE args + 1) (dE es[j] + 1) := by omega
         rw [e1, e2]; exact hacc
       · have : IntKind.wrap .i64 (c + Hf es[j]) = c + Hf es[j] := by
           have h0 := hs.acc.2.2.1
           simp only at h0
           exact DZ (by unfold Hf; omega) (by unfold Hf; omega)
         simp only [this]; unfold Hf; omega
       · rw [hp]
         simp only [Option.bind_some, show (0 : Int) ≤ (j : Int) by omega, decide_true, cond_true, Bn, List.getElem?_eq_getElem hj, hnj, hdj, FU (show args.length + [es[j]].length ≤ 1000 by simp; omega) (show 88 ≤ 1000 by decide), hwk]
   · left
     simp only [hk2, hk4, decide_true, decide_false, cond_true, cond_false, Fd]
     exact hfin
 · left
   simp only [hk2, decide_false, cond_false, Fd]
   exact hfin
structure ExprsK (es : List TE) (k : Nat) (s : List TE × Int × Int) : Prop where
 len : s.1.length ≤ k
 ok : ∀ a, a ∈ s.1 → LimE a ∧ dE a ≤ 50
 acc : Aa1 s.2.1 s.2.2 (sumN nE s.1 + 1) (maxD dE s.1 + 1)
 small : s.2.1 ≤ 1 + 1000 * k
structure BodyK (i : Nat) (xs : List TE) (k : Nat) (s : List TS × List TS × Int × Int) : Prop where
 len : s.1.length + s.2.1.length ≤ k
 ok : ∀ a, a ∈ s.1 ∨ a ∈ s.2.1 → LimS a ∧ dS a ≤ i + 59
 acc : Aa1 s.2.2.1 s.2.2.2 (sumN nE xs + (sumN nS s.1 + sumN nS s.2.1) + 1) (max (maxD dE xs) (max (maxD dS s.1) (maxD dS s.2.1)) + 1)
 small : s.2.2.1 ≤ 10001 + 1000 * k
theorem Ak8 {ss : List TS} {ms ps : List Int} (hinv : InvS ss ms ps) (hlen : ss.length < 50) {x : TKnot} (hcols : x.Cols.length ≤ 12) {rec : List TS → List Int → List Int → Int → Option TTree} {n : Nat} (hn : 20 < n)
   {xs : List TE} (hxl : xs.length ≤ 10) (hxs : ∀ a, a ∈ xs → LimE a ∧ dE a ≤ 50) {c0 d0 : Int} (hacc : Aa1 c0 d0 (sumN nE xs + 1) (maxD dE xs + 1)) (hc0 : c0 ≤ 10001) :
   ∃ e, InvS (ss ++ [e]) (ms ++ [C1 e]) (ps ++ [ES e]) ∧ Cd ss ms ps (ss.length : Int) rec x xs n [] [] c0 d0 (0 : Int) = rec (ss ++ [e]) (ms ++ [C1 e]) (ps ++ [ES e]) ((ss.length + 1 : Nat) : Int) := by
 refine loop_inv0 (F := fun m (s : List TS × List TS × Int × Int) v => Cd ss ms ps (ss.length : Int) rec x xs m s.1 s.2.1 s.2.2.1 s.2.2.2 v) (Inv := BodyK ss.length xs)
   (P := fun v => ∃ e, InvS (ss ++ [e]) (ms ++ [C1 e]) (ps ++ [ES e]) ∧ v = rec (ss ++ [e]) (ms ++ [C1 e]) (ps ++ [ES e]) ((ss.length + 1 : Nat) : Int)) 10 ?_ (m := n) (by omega) (s := ([], [], c0, d0)) ⟨by simp, fun a h => (by rcases h with h | h <;> cases h), by simpa [sumN, maxD] using hacc, by simpa using hc0⟩
 intro m k s hs hk
 obtain ⟨bs, cs, c, d⟩ := s
 have hxm : maxD dE xs ≤ 50 := Jj fun a ha => (hxs a ha).2
 have hbm : maxD dS bs ≤ ss.length + 59 := Jj fun a ha => (hs.ok a (.inl ha)).2
 have hcm : maxD dS cs ≤ ss.length + 59 := Jj fun a ha => (hs.ok a (.inr ha)).2
 have hsl := hs.len
 have hss := hs.small
 simp only at hsl hss
 have hfin : ∃ e, InvS (ss ++ [e]) (ms ++ [C1 e]) (ps ++ [ES e]) ∧ Gs ss ms ps (ss.length : Int) rec x xs bs cs c d = rec (ss ++ [e]) (ms ++ [C1 e]) (ps ++ [ES e]) ((ss.length + 1 : Nat) : Int) := by
   have ht := hs.acc.told (by simp only; omega)
   simp only at ht
   refine ⟨⟨x.Op, x.Name, x.Src, x.N, x.Cols, xs, bs, cs⟩, ⟨?_, ?_, ?_⟩, ?_⟩
   · rw [hinv.n]; simp
   · rw [hinv.d]; simp
   · refine Al3 (P := fun i x => LimS x ∧ dS x ≤ i + 60) hinv.e ⟨LimS.mk _ hcols hxl (by simp only; omega) (by simp only; omega) (fun a ha => (hxs a ha).1) (fun a ha => (hs.ok a (.inl ha)).1) (fun a ha => (hs.ok a (.inr ha)).1), ?_⟩
     rw [As0]; simp only; omega
   · have l1 : ms.length = ss.length := by rw [hinv.n]; simp
     have l2 : ps.length = ss.length := by rw [hinv.d]; simp
     rw [Gs, FU (by simp; omega) (by decide), Option.bind_some, FU (by simp; omega) (by decide), Option.bind_some, FU (by simp; omega) (by decide), Option.bind_some, Bj (by omega), ht]
     have e1 : C1 ⟨x.Op, x.Name, x.Src, x.N, x.Cols, xs, bs, cs⟩ = (B2 (sumN nE xs + (sumN nS bs + sumN nS cs) + 1) (max (maxD dE xs) (max (maxD dS bs) (maxD dS cs)) + 1)).1 := by rw [C1, Ac0, As0]
     have e2 : ES ⟨x.Op, x.Name, x.Src, x.N, x.Cols, xs, bs, cs⟩ = (B2 (sumN nE xs + (sumN nS bs + sumN nS cs) + 1) (max (maxD dE xs) (max (maxD dS bs) (maxD dS cs)) + 1)).2 := by rw [ES, Ac0, As0]
     rw [e1, e2]
 have hwk := Bj (i := k) (by omega)
 -- what follows the place that was picked
 have hgo : k < 10 → ∀ j7 : Int, (j7 = -1 ∨ ∃ j : Nat, j < ss.length ∧ j7 = (j : Int)) → ∃ s', BodyK ss.length xs (k + 1) s' ∧ ED ss ms ps x (Cd ss ms ps (ss.length : Int) rec x xs m) bs cs c d (k : Int) j7 = Cd ss ms ps (ss.length : Int) rec x xs m s'.1 s'.2.1 s'.2.2.1 s'.2.2.2 ((k + 1 : Nat) : Int) := by
   intro hk10 j7 hj7
   rcases hj7 with rfl | ⟨j, hj, rfl⟩
   · refine ⟨(bs, cs, c, d), ⟨by simp only; omega, hs.ok, hs.acc, by simp only; omega⟩, ?_⟩
     simp only [ED, show (-1 : Int) < 0 by decide, decide_true, cond_true, hwk]
   · have hje := hinv.e j ss[j] (List.getElem?_eq_getElem hj)
     have hnj : ms[j]? = some (C1 ss[j]) := by rw [hinv.n, List.getElem?_map, List.getElem?_eq_getElem hj]; rfl
     have hdj : ps[j]? = some (ES ss[j]) := by rw [hinv.d, List.getElem?_map, List.getElem?_eq_getElem hj]; rfl
     have hacc2 := hs.acc.add (K := nS ss[j]) (E := dS ss[j]) (by simp only; omega) (by simp only; omega) (by omega)
     simp only at hacc2
     have hb := NV (nS ss[j]) (dS ss[j])
     have hw1 : IntKind.wrap .i64 (c + C1 ss[j]) = c + C1 ss[j] := by
       have h0 := hs.acc.2.2.1
       simp only at h0
       exact DZ (by unfold C1; omega) (by unfold C1; omega)
     by_cases hin : (k : Int) < (x.Body.length : Int)
     · refine ⟨(bs ++ [ss[j]], cs, IntKind.wrap .i64 (c + C1 ss[j]), max d (IntKind.wrap .i64 (ES ss[j] + 1))), ⟨by simp; omega, fun a ha => ?_, ?_, ?_⟩, ?_⟩
       · rcases ha with ha | ha
         · rcases List.mem_append.1 ha with ha | ha
           · exact hs.ok a (.inl ha)
           · have : a = ss[j] := by simpa using ha
             subst this; exact ⟨hje.1, by omega⟩
         · exact hs.ok a (.inr ha)
       · simp only [OB, NR]
         have e1 : sumN nE xs + (sumN nS bs + nS ss[j] + sumN nS cs) + 1 = sumN nE xs + (sumN nS bs + sumN nS cs) + 1 + nS ss[j] := by omega
         have e2 : max (maxD dE xs) (max (max (maxD dS bs) (dS ss[j])) (maxD dS cs)) + 1 = max (max (maxD dE xs) (max (maxD dS bs) (maxD dS cs)) + 1) (dS ss[j] + 1) := by omega
         rw [e1, e2]; exact hacc2
       · simp only [hw1]; unfold C1; omega
       · simp only [ED, show ¬ (j : Int) < 0 by omega, hin, decide_true, decide_false, cond_true, cond_false, Bn, List.getElem?_eq_getElem hj, hnj, hdj, Option.bind_some, FU (show bs.length + [ss[j]].length ≤ 1000 by simp; omega) (show 144 ≤ 1000 by decide), hwk]
     · refine ⟨(bs, cs ++ [ss[j]], IntKind.wrap .i64 (c + C1 ss[j]), max d (IntKind.wrap .i64 (ES ss[j] + 1))), ⟨by simp; omega, fun a ha => ?_, ?_, ?_⟩, ?_⟩
       · rcases ha with ha | ha
         · exact hs.ok a (.inl ha)
         · rcases List.mem_append.1 ha with ha | ha
           · exact hs.ok a (.inr ha)
           · have : a = ss[j] := by simpa using ha
             subst this; exact ⟨hje.1, by omega⟩
       · simp only [OB, NR]
         have e1 : sumN nE xs + (sumN nS bs + (sumN nS cs + nS ss[j])) + 1 = sumN nE xs + (sumN nS bs + sumN nS cs) + 1 + nS ss[j] := by omega
         have e2 : max (maxD dE xs) (max (maxD dS bs) (max (maxD dS cs) (dS ss[j]))) + 1 = max (max (maxD dE xs) (max (maxD dS bs) (maxD dS cs)) + 1) (dS ss[j] + 1) := by omega
         rw [e1, e2]; exact hacc2
       · simp only [hw1]; unfold C1; omega
       · simp only [ED, show ¬ (j : Int) < 0 by omega, hin, decide_true, decide_false, cond_true, cond_false, Bn, List.getElem?_eq_getElem hj, hnj, hdj, Option.bind_some, FU (show cs.length + [ss[j]].length ≤ 1000 by simp; omega) (show 144 ≤ 1000 by decide), hwk]
 have hpick : ∀ q : Int, ∃ j7 : Int, Hi q (ss.length : Int) = some j7 ∧ (j7 = -1 ∨ ∃ j : Nat, j < ss.length ∧ j7 = (j : Int)) := fun q => by
   rcases Xo q ss.length (by omega) with ⟨_, hp⟩ | ⟨j, hj, hp⟩
   · exact ⟨-1, hp, .inl rfl⟩
   · exact ⟨j, hp, .inr ⟨j, hj, rfl⟩⟩
 show (∃ e, _ ∧ Cd ss ms ps (ss.length : Int) rec x xs (m + 1) bs cs c d (k : Int) = _) ∨ (_ ∧ ∃ s', _ ∧ Cd ss ms ps (ss.length : Int) rec x xs (m + 1) bs cs c d (k : Int) = _)
 rw [Cd, HP]
 by_cases hk2 : (k : Int) < IntKind.wrap .i64 ((x.Body.length : Int) + (x.Else.length : Int))
 · by_cases hk4 : (k : Int) < 10
   · right
     refine ⟨by omega, ?_⟩
     simp only [hk2, hk4, decide_true, cond_true, EY]
     by_cases hin : (k : Int) < (x.Body.length : Int)
     · have hkl : k < x.Body.length := by omega
       obtain ⟨j7, hp, hj7⟩ := hpick x.Body[k]
       simp only [hin, decide_true, cond_true, Bn, List.getElem?_eq_getElem hkl, Option.bind_some, hp]
       exact hgo (by omega) j7 hj7
     · have hlb : x.Body.length ≤ k := by omega
       have hle : k - x.Body.length < x.Else.length := by
         rcases Nat.lt_or_ge (k - x.Body.length) x.Else.length with h | h
         · exact h
         · exfalso
           rw [DZ (by omega) (by omega)] at hk2
           omega
       have hwi : IntKind.wrap .i64 ((k : Int) - (x.Body.length : Int)) = ((k - x.Body.length : Nat) : Int) := by
         rw [DZ (by omega) (by omega)]; omega
       obtain ⟨j7, hp, hj7⟩ := hpick x.Else[k - x.Body.length]
       simp only [hin, decide_false, cond_false, hwi, Bn, List.getElem?_eq_getElem hle, Option.bind_some, hp]
       exact hgo (by omega) j7 hj7
   · left
     simp only [hk2, hk4, decide_true, decide_false, cond_true, cond_false, EY]
     exact hfin
 · left
   simp only [hk2, decide_false, cond_false, EY]
   exact hfin
theorem AB1 {es : List TE} {ns ds : List Int} (hE : InvE es ns ds) (hel : es.length ≤ 50) {ss : List TS} {ms ps : List Int} (hinv : InvS ss ms ps) (hlen : ss.length < 50) {x : TKnot} (hcols : x.Cols.length ≤ 12) {rec : List TS → List Int → List Int → Int → Option TTree} {n : Nat} (hn : 20 < n) :
   ∃ e, InvS (ss ++ [e]) (ms ++ [C1 e]) (ps ++ [ES e]) ∧ CE n es ns ds ss ms ps (ss.length : Int) rec x n [] (1 : Int) (1 : Int) (0 : Int) = rec (ss ++ [e]) (ms ++ [C1 e]) (ps ++ [ES e]) ((ss.length + 1 : Nat) : Int) := by
 refine loop_inv0 (F := fun m (s : List TE × Int × Int) v => CE n es ns ds ss ms ps (ss.length : Int) rec x m s.1 s.2.1 s.2.2 v) (Inv := ExprsK es)
   (P := fun v => ∃ e, InvS (ss ++ [e]) (ms ++ [C1 e]) (ps ++ [ES e]) ∧ v = rec (ss ++ [e]) (ms ++ [C1 e]) (ps ++ [ES e]) ((ss.length + 1 : Nat) : Int)) 10 ?_ (m := n) (by omega) (s := ([], 1, 1)) ⟨by simp, fun a h => (by cases h), ⟨fun _ => by simp [sumN, maxD], fun h => by simp [sumN] at h, by simp, by simp, by simp⟩, by simp⟩
 intro m k s hs hk
 obtain ⟨args, c, d⟩ := s
 have hsl := hs.len
 have hss := hs.small
 simp only at hsl hss
 have hfin : ∃ e, InvS (ss ++ [e]) (ms ++ [C1 e]) (ps ++ [ES e]) ∧ GF n ss ms ps (ss.length : Int) rec x args c d = rec (ss ++ [e]) (ms ++ [C1 e]) (ps ++ [ES e]) ((ss.length + 1 : Nat) : Int) := by
   rw [GF]
   exact Ak8 (xs := args) hinv hlen hcols hn (by omega) hs.ok hs.acc (by omega)
 show (∃ e, _ ∧ CE n es ns ds ss ms ps (ss.length : Int) rec x (m + 1) args c d (k : Int) = _) ∨ (_ ∧ ∃ s', _ ∧ CE n es ns ds ss ms ps (ss.length : Int) rec x (m + 1) args c d (k : Int) = _)
 rw [CE, HJ]
 by_cases hk2 : (k : Int) < (x.Exprs.length : Int)
 · by_cases hk4 : (k : Int) < 10
   · right
     refine ⟨by omega, ?_⟩
     have hkl : k < x.Exprs.length := by omega
     simp only [hk2, hk4, decide_true, cond_true, E9, Bn, List.getElem?_eq_getElem hkl, Option.bind_some]
     have hwk := Bj (i := k) (by omega)
     rcases Xo x.Exprs[k] es.length (by omega) with ⟨h0, hp⟩ | ⟨j, hj, hp⟩
     · refine ⟨(args, c, d), ⟨by simp only; omega, hs.ok, hs.acc, by simp only; omega⟩, ?_⟩
       rw [hp]
       simp only [Option.bind_some, show ¬ (0 : Int) ≤ -1 by decide, decide_false, cond_false, hwk]
     · have hje := hE.e j es[j] (List.getElem?_eq_getElem hj)
       have hnj : ns[j]? = some (Hf es[j]) := by rw [hE.n, List.getElem?_map, List.getElem?_eq_getElem hj]; rfl
       have hdj : ds[j]? = some (MD es[j]) := by rw [hE.d, List.getElem?_map, List.getElem?_eq_getElem hj]; rfl
       have hmax : maxD dE args ≤ 50 := Jj fun a ha => (hs.ok a ha).2
       have hacc := hs.acc.add (K := nE es[j]) (E := dE es[j]) (by simp only; omega) (by simp only; omega) (by omega)
       have hb := NV (nE es[j]) (dE es[j])
       refine ⟨(args ++ [es[j]], IntKind.wrap .i64 (c + Hf es[j]), max d (IntKind.wrap .i64 (MD es[j] + 1))), ⟨by simp; omega, fun a ha => ?_, ?_, ?_⟩, ?_⟩
       · rcases List.mem_append.1 ha with ha | ha
         · exact hs.ok a ha
         · have : a = es[j] := by simpa using ha
           subst this; exact ⟨hje.1, by omega⟩
       · simp only [OB, NR]
         have e1 : sumN nE args + nE es[j] + 1 = sumN nE args + 1 + nE es[j] := by omega
         have e2 : max (maxD dE args) (dE es[j]) + 1 = max (maxD dE args + 1) (dE es[j] + 1) := by omega
         rw [e1, e2]; exact hacc
       · have : IntKind.wrap .i64 (c + Hf es[j]) = c + Hf es[j] := by
           have h0 := hs.acc.2.2.1
           simp only at h0
           exact DZ (by unfold Hf; omega) (by unfold Hf; omega)
         simp only [this]; unfold Hf; omega
       · rw [hp]
         simp only [Option.bind_some, show (0 : Int) ≤ (j : Int) by omega, decide_true, cond_true, Bn, List.getElem?_eq_getElem hj, hnj, hdj, FU (show args.length + [es[j]].length ≤ 1000 by simp; omega) (show 88 ≤ 1000 by decide), hwk]
   · left
     simp only [hk2, hk4, decide_true, decide_false, cond_true, cond_false, E9]
     exact hfin
 · left
   simp only [hk2, decide_false, cond_false, E9]
   exact hfin
structure GoodT (t : TTree) : Prop where
 e : InvE t.Exprs t.Nodes t.Depth
 s : InvS t.Stmts t.Much t.Deep
 len : t.Stmts.length ≤ 50
theorem AK1 {ls : List TLeaf} {ks : List TKnot} (h1 : ls.length ≤ 50) (h2 : ks.length ≤ 50) (h3 : ∀ x, x ∈ ks → x.Cols.length ≤ 12) {n : Nat} (hn : 60 < n) : ∃ t, Kj n ls ks = some t ∧ GoodT t := by
 unfold Kj
 have hknots : ∀ (es : List TE) (ns ds : List Int), InvE es ns ds → es.length ≤ 50 → ∃ t, Cq ks n es ns ds n [] [] [] (0 : Int) = some t ∧ GoodT t := by
   intro es ns ds hE hel
   refine loop_inv0 (F := fun m (s : List TS × List Int × List Int) v => Cq ks n es ns ds m s.1 s.2.1 s.2.2 v) (Inv := fun i s => InvS s.1 s.2.1 s.2.2 ∧ s.1.length = i)
     (P := fun v => ∃ t, v = some t ∧ GoodT t) 50 ?_ (m := n) (by omega) (s := ([], [], [])) ⟨⟨rfl, rfl, fun i x h => by simp at h⟩, rfl⟩
   intro m i s hs hi
   obtain ⟨ss, ms, ps⟩ := s
   obtain ⟨hS, rfl⟩ := hs
   replace hS : InvS ss ms ps := hS
   show (∃ t, Cq ks n es ns ds (m + 1) ss ms ps (ss.length : Int) = _ ∧ _) ∨ (_ ∧ ∃ s', _ ∧ Cq ks n es ns ds (m + 1) ss ms ps (ss.length : Int) = _)
   rw [Cq, HV]
   by_cases hk : (ss.length : Int) < (ks.length : Int)
   · have hk50 : (ss.length : Int) < 50 := by omega
     have hkl : ss.length < ks.length := by omega
     right
     refine ⟨show ss.length < 50 by omega, ?_⟩
     simp only [hk, hk50, decide_true, cond_true, FQ, Bn, List.getElem?_eq_getElem hkl, Option.bind_some]
     obtain ⟨e, hinv, he⟩ := AB1 (n := n) (rec := Cq ks n es ns ds m) hE hel hS (by omega) (h3 ks[ss.length] (List.getElem_mem _)) (by omega)
     exact ⟨(ss ++ [e], ms ++ [C1 e], ps ++ [ES e]), ⟨hinv, by simp⟩, he⟩
   · left
     simp only [hk, decide_false, cond_false, FQ]
     exact ⟨_, rfl, ⟨hE, hS, by simp only at hi ⊢; omega⟩⟩
 refine loop_inv0 (F := fun m (s : List TE × List Int × List Int) v => CD ls ks n m s.1 s.2.1 s.2.2 v) (Inv := fun i s => InvE s.1 s.2.1 s.2.2 ∧ s.1.length = i)
   (P := fun v => ∃ t, v = some t ∧ GoodT t) 50 ?_ (m := n) (by omega) (s := ([], [], [])) ⟨⟨rfl, rfl, fun i x h => by simp at h⟩, rfl⟩
 intro m i s hs hi
 obtain ⟨es, ns, ds⟩ := s
 obtain ⟨hE, rfl⟩ := hs
 replace hE : InvE es ns ds := hE
 show (∃ t, CD ls ks n (m + 1) es ns ds (es.length : Int) = _ ∧ _) ∨ (_ ∧ ∃ s', _ ∧ CD ls ks n (m + 1) es ns ds (es.length : Int) = _)
 rw [CD, HI]
 by_cases hk : (es.length : Int) < (ls.length : Int)
 · have hk50 : (es.length : Int) < 50 := by omega
   have hkl : es.length < ls.length := by omega
   right
   refine ⟨show es.length < 50 by omega, ?_⟩
   simp only [hk, hk50, decide_true, cond_true, FK, Bn, List.getElem?_eq_getElem hkl, Option.bind_some]
   obtain ⟨e, hinv, he⟩ := AC6 (n := n) (rec := CD ls ks n m) hE (by omega) (x := ls[es.length]) (by omega)
   exact ⟨(es ++ [e], ns ++ [Hf e], ds ++ [MD e]), ⟨hinv, by simp⟩, he⟩
 · left
   simp only [hk, decide_false, cond_false, FK]
   exact hknots es ns ds hE (by simp only at hi ⊢; omega)
end Go.Ax
set_option linter.unusedVariables false
set_option linter.unusedSimpArgs false
namespace Go.Ax
theorem AG4 (ls : List TLeaf) (ks : List TKnot) {n : Nat} (hn : 60 < n) : ∃ b, Ke n ls ks = some b ∧ (b = false → ls.length ≤ 50 ∧ ks.length ≤ 50 ∧ ∀ x, x ∈ ks → x.Cols.length ≤ 12) := by
 unfold Ke
 by_cases h1 : (50 : Int) < (ls.length : Int)
 · exact ⟨true, by simp [h1, Ff], fun h => by cases h⟩
 by_cases h2 : (50 : Int) < (ks.length : Int)
 · exact ⟨true, by simp [h1, h2, Ff], fun h => by cases h⟩
 simp only [h1, h2, decide_false, cond_false, Ff]
 have hl : ls.length ≤ 50 := by omega
 have hk : ks.length ≤ 50 := by omega
 have hknots : ∃ b, Bv ks n n 0 = some b ∧ (b = false → ls.length ≤ 50 ∧ ks.length ≤ 50 ∧ ∀ x, x ∈ ks → x.Cols.length ≤ 12) := by
   refine loop_inv0 (F := fun m (_ : Unit) v => Bv ks n m v) (Inv := fun i _ => i ≤ ks.length ∧ ∀ j x, j < i → ks[j]? = some x → x.Cols.length ≤ 12)
     (P := fun v => ∃ b, v = some b ∧ (b = false → ls.length ≤ 50 ∧ ks.length ≤ 50 ∧ ∀ x, x ∈ ks → x.Cols.length ≤ 12)) 50 ?_ (m := n) (by omega) (s := ()) ⟨by omega, fun j x h => by omega⟩
   intro m i u ⟨hi, hinv⟩ hi50
   show (∃ b, Bv ks n (m + 1) (i : Int) = _ ∧ _) ∨ (_ ∧ ∃ s', _ ∧ Bv ks n (m + 1) (i : Int) = _)
   rw [Bv, HS]
   by_cases hik : (i : Int) < (ks.length : Int)
   · have hil : i < ks.length := by omega
     simp only [hik, decide_true, cond_true, Bn, List.getElem?_eq_getElem hil, Option.bind_some, GD, Gz]
     generalize hx : ks[i] = x
     have hxm : ks[i]? = some x := by rw [List.getElem?_eq_getElem hil, hx]
     by_cases a1 : (100 : Int) < (x.Name.size : Int)
     · left; exact ⟨true, by simp [a1], fun h => by cases h⟩
     by_cases a2 : (100 : Int) < (x.Src.size : Int)
     · left; exact ⟨true, by simp [a1, a2], fun h => by cases h⟩
     by_cases a3 : (12 : Int) < (x.Cols.length : Int)
     · left; exact ⟨true, by simp [a1, a2, a3], fun h => by cases h⟩
     simp only [a1, a2, a3, decide_false, cond_false]
     have hinner : (∃ b, Cp ks (Bv ks n m) (i : Int) n 0 = some b ∧ b = true) ∨ Cp ks (Bv ks n m) (i : Int) n 0 = Bv ks n m ((i + 1 : Nat) : Int) := by
       refine loop_inv0 (F := fun m' (_ : Unit) v => Cp ks (Bv ks n m) (i : Int) m' v) (Inv := fun k _ => k ≤ x.Cols.length)
         (P := fun v => (∃ b, v = some b ∧ b = true) ∨ v = Bv ks n m ((i + 1 : Nat) : Int)) 12 ?_ (m := n) (by omega) (s := ()) (by omega)
       intro m' k u hkl hk12
       show (_ ∨ Cp ks (Bv ks n m) (i : Int) (m' + 1) (k : Int) = _) ∨ (_ ∧ ∃ s', _ ∧ Cp ks (Bv ks n m) (i : Int) (m' + 1) (k : Int) = _)
       rw [Cp, HR]
       simp only [Bn, hxm, Option.bind_some]
       by_cases hkc : (k : Int) < (x.Cols.length : Int)
       · have hkl2 : k < x.Cols.length := by omega
         simp only [hkc, decide_true, cond_true, List.getElem?_eq_getElem hkl2, Option.bind_some]
         by_cases a4 : (100 : Int) < (x.Cols[k].size : Int)
         · left; left; exact ⟨true, by simp [a4], rfl⟩
         · right
           refine ⟨by omega, (), by omega, ?_⟩
           simp only [a4, decide_false, cond_false]
           rw [Bj (by omega)]
       · left; right
         simp only [hkc, decide_false, cond_false]
         rw [Bj (by omega)]
     rcases hinner with ⟨b, hb, rfl⟩ | hb
     · left; exact ⟨true, hb, fun h => by cases h⟩
     · right
       refine ⟨by omega, (), ⟨by omega, fun j y hj hy => ?_⟩, hb⟩
       rcases Nat.lt_or_ge j i with h | h
       · exact hinv j y h hy
       · have : j = i := by omega
         subst this
         rw [hxm] at hy; cases hy; omega
   · left
     refine ⟨false, by simp [hik], fun _ => ⟨hl, hk, fun x hx => ?_⟩⟩
     obtain ⟨j, hj, rfl⟩ := List.getElem_of_mem hx
     exact hinv j _ (by omega) (List.getElem?_eq_getElem hj)
 refine loop_inv0 (F := fun m (_ : Unit) v => CN ls ks n m v) (Inv := fun i _ => i ≤ ls.length)
   (P := fun v => ∃ b, v = some b ∧ (b = false → ls.length ≤ 50 ∧ ks.length ≤ 50 ∧ ∀ x, x ∈ ks → x.Cols.length ≤ 12)) 50 ?_ (m := n) (by omega) (s := ()) (by omega)
 intro m i u hi hi50
 show (∃ b, CN ls ks n (m + 1) (i : Int) = _ ∧ _) ∨ (_ ∧ ∃ s', _ ∧ CN ls ks n (m + 1) (i : Int) = _)
 rw [CN, HN]
 by_cases hik : (i : Int) < (ls.length : Int)
 · have hil : i < ls.length := by omega
   simp only [hik, decide_true, cond_true, Bn, List.getElem?_eq_getElem hil, Option.bind_some, Gu]
   by_cases a1 : (300 : Int) < (ls[i].S.size : Int)
   · left; exact ⟨true, by simp [a1], fun h => by cases h⟩
   by_cases a2 : (100 : Int) < (ls[i].Name.size : Int)
   · left; exact ⟨true, by simp [a1, a2], fun h => by cases h⟩
   by_cases a3 : (100 : Int) < (ls[i].Src.size : Int)
   · left; exact ⟨true, by simp [a1, a2, a3], fun h => by cases h⟩
   right
   refine ⟨by omega, (), by omega, ?_⟩
   simp only [a1, a2, a3, decide_false, cond_false]
   rw [Bj (by omega)]
 · left
   simp only [hik, decide_false, cond_false, Hr]
   exact hknots
def AA6 (n d : Int) (N D : Nat) : Prop := (N < 1000 → n = N ∧ d = D) ∧ (1000 ≤ N → 1000 ≤ n) ∧ 0 ≤ n ∧ 0 ≤ d ∧ d ≤ 1000
theorem AA6.told {n d : Int} {N D : Nat} (h : AA6 n d N D) (hd : D ≤ 900) : Du n d = B2 N D :=
 Aa1.told ⟨h.1, h.2.1, h.2.2.1, h.2.2.2.1, by have := h.2.2.2.2; omega⟩ hd
theorem AA6.add {n d : Int} {N D K E : Nat} (h : AA6 n d N D) (hn : n ≤ 100000) (hD : D ≤ 900) (hE : E ≤ 900) : AA6 (IntKind.wrap .i64 (n + (B2 K E).1)) (max d (B2 K E).2) (N + K) (max D E) := by
 have b := NV K E
 obtain ⟨h1, h2, h3, h4, h5⟩ := h
 have e1 : IntKind.wrap .i64 (n + (B2 K E).1) = n + (B2 K E).1 := DZ (by omega) (by omega)
 rw [e1]
 have t1 : K < 1000 → (B2 K E).1 = K ∧ (B2 K E).2 = E := fun hk => by
   unfold B2; rw [if_neg (by omega)]; exact ⟨rfl, rfl⟩
 have t2 : 1000 ≤ K → (B2 K E).1 = 1000 := fun hk => by
   unfold B2; rw [if_pos (by omega)]
 refine ⟨fun hlt => ?_, fun hge => ?_, by omega, by omega, by omega⟩
 · have := h1 (by omega); have := t1 (by omega); omega
 · by_cases hN : N < 1000
   · by_cases hK : K < 1000
     · have := h1 hN; have := t1 hK; omega
     · have := t2 (by omega); omega
   · have := h2 (by omega); omega
structure GoodP (p : TP) : Prop where
 params : p.Params.length ≤ 12
 body : p.Body.length ≤ 12
 lim : ∀ x, x ∈ p.Body → LimS x
 deep : maxD dS p.Body ≤ 120
structure Good (v : TP × Int × Int × Bool × Bool) : Prop where
 p : GoodP v.1
 n : v.2.1 = (B2 (sumN nS v.1.Body) (maxD dS v.1.Body)).1
 d : v.2.2.1 = (B2 (sumN nS v.1.Body) (maxD dS v.1.Body)).2
 right : v.2.2.2.1 = GP v.1
 ok : v.2.2.2.2 = true
structure BodyL (k : Nat) (s : List TS × Int × Int) : Prop where
 len : s.1.length ≤ k
 ok : ∀ a, a ∈ s.1 → LimS a ∧ dS a ≤ 120
 acc : AA6 s.2.1 s.2.2 (sumN nS s.1) (maxD dS s.1)
 small : s.2.1 ≤ 1000 * k
theorem Ax0 (N D : Nat) : (decide ((B2 N D).1 ≤ 300) && decide ((B2 N D).2 ≤ 12)) = decide (N ≤ 300 ∧ D ≤ 12) := by
 unfold B2
 split
 · rename_i h
   rw [Bool.eq_iff_iff]; simp; omega
 · rw [Bool.eq_iff_iff]; simp; omega
def XP (x : LSay) : TP × Int × Int × Bool × Bool := ((⟨x.Name, x.From, x.At, x.Fuel, x.Params, []⟩ : TP), (0 : Int), (0 : Int), false, false)
def Az1 (x : LSay) (t : TTree) (N : Nat) (body : List TS) (c d : Int) : Option (TP × Int × Int × Bool × Bool) := H8 x N t body c d 0 (fun _ _ _ _ => none) false
theorem AL7 {x : LSay} {t : TTree} (hg : GoodT t) (hb : x.Body.length ≤ 12) : ∃ (body : List TS) (c d : Int), BodyL 12 (body, c, d) ∧ ∀ N, 100 ≤ N → DB x N t N [] (0 : Int) (0 : Int) (0 : Int) = Az1 x t N body c d := by
 have hts := hg.s
 have htl := hg.len
 have start : BodyL 0 ([], (0 : Int), (0 : Int)) := ⟨by simp, fun a h => (by cases h), ⟨fun _ => by simp [sumN, maxD], fun h => by simp [sumN] at h, by simp, by simp, by simp⟩, by simp⟩
 by_cases hst : (0 : Int) < (t.Stmts.length : Int)
 · have hj : ∀ q : Int, ∃ j : Nat, j < t.Stmts.length ∧ VX (decide ((IntKind.wrap .u64 (t.Stmts.length : Int)) ≠ 0)) = some () ∧ IntKind.wrap .i64 ((IntKind.wrap .i64 ((t.Stmts.length : Int) - (1 : Int))) - (IntKind.wrap .i64 (Int.tmod (IntKind.wrap .u64 q) (IntKind.wrap .u64 (t.Stmts.length : Int))))) = (j : Int) := fun q => by
     rcases Xo q t.Stmts.length htl with ⟨h0, _⟩ | ⟨j, hj, hp⟩
     · omega
     · unfold Hi at hp
       have hne : ¬ (t.Stmts.length : Int) = 0 := by omega
       simp only [hne, decide_false, cond_false] at hp
       obtain ⟨u, hu, hp⟩ := bind_some hp
       simp only [Option.some.injEq] at hp
       exact ⟨j, hj, hu, hp⟩
   have ⟨J, hJ⟩ := Classical.axiomOfChoice hj
   let St : Int → TS := fun q => t.Stmts[J q]'((hJ q).1)
   let g : List TS × Int × Int → Nat → Int → Option (TP × Int × Int × Bool × Bool) ⊕ (List TS × Int × Int) := fun s _ q => match Gq 144 s.1 [St q] with
     | some b => .inr (b, IntKind.wrap .i64 (s.2.1 + C1 (St q)), max s.2.2 (ES (St q)))
     | none => .inl none
   have key : ∀ (r : List Int) (i k : Nat) (s : List TS × Int × Int), BodyL k s → k + r.length ≤ 12 → ∃ s', BodyL 12 s' ∧ ∀ fin, runL g fin r i s = fin s' := by
     intro r
     induction r with
     | nil => intro i k s hs hk; exact ⟨s, ⟨by have := hs.len; simp at hk; omega, hs.ok, hs.acc, by have := hs.small; simp at hk; omega⟩, fun fin => rfl⟩
     | cons q r ih =>
       intro i k s hs hk
       obtain ⟨body, c, d⟩ := s
       have hsl := hs.len
       have hss := hs.small
       simp only at hsl hss
       simp only [List.length_cons] at hk
       have hje := hts.e (J q) (St q) (List.getElem?_eq_getElem (hJ q).1)
       have hJl := (hJ q).1
       have hmax : maxD dS body ≤ 120 := Jj fun a ha => (hs.ok a ha).2
       have hacc := hs.acc.add (K := nS (St q)) (E := dS (St q)) (by simp only; omega) (by simp only; omega) (by omega)
       have hbd := NV (nS (St q)) (dS (St q))
       have hw1 : IntKind.wrap .i64 (c + C1 (St q)) = c + C1 (St q) := by
         have h0 := hs.acc.2.2.1
         simp only at h0
         exact DZ (by unfold C1; omega) (by unfold C1; omega)
       have hap : Gq 144 body [St q] = some (body ++ [St q]) := FU (by simp; omega) (by decide)
       obtain ⟨s', h1, h2⟩ := ih (i + 1) (k + 1) (body ++ [St q], IntKind.wrap .i64 (c + C1 (St q)), max d (ES (St q))) ⟨by simp; omega, fun a ha => by
           rcases List.mem_append.1 ha with ha | ha
           · exact hs.ok a ha
           · have : a = St q := by simpa using ha
             subst this; exact ⟨hje.1, by omega⟩, by simp only [OB, NR]; exact hacc, by simp only [hw1]; unfold C1; omega⟩ (by omega)
       refine ⟨s', h1, fun fin => ?_⟩
       rw [runL]
       have : g (body, c, d) i q = .inr (body ++ [St q], IntKind.wrap .i64 (c + C1 (St q)), max d (ES (St q))) := by
         show (match Gq 144 body [St q] with | some b => _ | none => _) = _
         rw [hap]
       rw [this]
       exact h2 fin
   obtain ⟨⟨body, c, d⟩, hB, hr⟩ := key x.Body 0 0 ([], 0, 0) start (by omega)
   refine ⟨body, c, d, hB, fun N hN => ?_⟩
   have := BW (l := x.Body) (F := fun m (s : List TS × Int × Int) v => DB x N t m s.1 s.2.1 s.2.2 v) (g := g) (fin := fun s => Az1 x t N s.1 s.2.1 s.2.2)
     (fun m i q s hq => by
       have hlt := BN hq
       show DB x N t (m + 1) s.1 s.2.1 s.2.2 (i : Int) = _
       rw [DB, IP]
       have h1 : (i : Int) < (x.Body.length : Int) := by omega
       have hnj : t.Much[J q]? = some (C1 (St q)) := by rw [hts.n, List.getElem?_map, List.getElem?_eq_getElem (hJ q).1]; rfl
       have hdj : t.Deep[J q]? = some (ES (St q)) := by rw [hts.d, List.getElem?_map, List.getElem?_eq_getElem (hJ q).1]; rfl
       have hsj : t.Stmts[J q]? = some (St q) := List.getElem?_eq_getElem (hJ q).1
       simp only [h1, hst, decide_true, cond_true, H8, Bn, hq, Option.bind_some, (hJ q).2.1, (hJ q).2.2, hsj, hnj, hdj, Bj (show i < 9223372036854775807 by omega)]
       have hgd : g s i q = (match Gq 144 s.1 [St q] with | some b => .inr (b, IntKind.wrap .i64 (s.2.1 + C1 (St q)), max s.2.2 (ES (St q))) | none => .inl none : Option (TP × Int × Int × Bool × Bool) ⊕ (List TS × Int × Int)) := rfl
       rw [hgd]
       cases Gq 144 s.1 [St q] <;> rfl)
     (fun m s => by
       show DB x N t (m + 1) s.1 s.2.1 s.2.2 _ = _
       rw [DB, IP]
       simp only [Int.lt_irrefl, decide_false, cond_false]
       rfl) (m := N) (by omega) ([], 0, 0)
   have h2 := hr (fun s => Az1 x t N s.1 s.2.1 s.2.2)
   exact this.trans h2
 · refine ⟨[], 0, 0, ⟨by simp, start.ok, start.acc, by simp⟩, fun N hN => ?_⟩
   obtain ⟨m, rfl⟩ : ∃ m, N = m + 1 := ⟨N - 1, by omega⟩
   rw [DB, IP]
   simp only [hst, decide_false]
   cases decide ((0 : Int) < (x.Body.length : Int)) <;> rfl
theorem AR3 (x : LSay) : ∃ n v, Md n x = some v ∧ (v.2.2.2.2 = false ∨ Good v) := by
 obtain ⟨b, hb, hbf⟩ := AG4 x.Leaves x.Knots (n := 100) (by omega)
 have hj0 : ∀ n, H5 x n true = some (XP x) := fun n => rfl
 by_cases hgreat : b = true
 · refine ⟨100, XP x, ?_, .inl rfl⟩
   rw [Md, hb, hgreat]
   simp only [Option.bind_some, cond_true, hj0, FN, FY, FX]
 have hbfalse : b = false := by cases b <;> simp_all
 subst hbfalse
 obtain ⟨hl, hk, hc⟩ := hbf rfl
 by_cases g1 : (12 : Int) < (x.Params.length : Int)
 · refine ⟨100, XP x, ?_, .inl rfl⟩
   rw [Md, hb]
   simp only [g1, decide_true, Option.bind_some, cond_true, cond_false, hj0, FN, FY, FX]
 by_cases g2 : (12 : Int) < (x.Body.length : Int)
 · refine ⟨100, XP x, ?_, .inl rfl⟩
   rw [Md, hb]
   simp only [g1, g2, decide_true, decide_false, Option.bind_some, cond_true, cond_false, hj0, FN, FY, FX]
 by_cases g3 : (100 : Int) < (x.Name.size : Int)
 · refine ⟨100, XP x, ?_, .inl rfl⟩
   rw [Md, hb]
   simp only [g1, g2, g3, decide_true, decide_false, Option.bind_some, cond_true, cond_false, hj0, FN, FY, FX]
 by_cases g4 : (100 : Int) < (x.From.size : Int)
 · refine ⟨100, XP x, ?_, .inl rfl⟩
   rw [Md, hb]
   simp only [g1, g2, g3, g4, decide_true, decide_false, Option.bind_some, cond_true, cond_false, hj0, FN, FY, FX]
 by_cases g5 : (100 : Int) < (x.At.size : Int)
 · refine ⟨100, XP x, ?_, .inl rfl⟩
   rw [Md, hb]
   simp only [g1, g2, g3, g4, g5, decide_true, decide_false, Option.bind_some, cond_true, cond_false, hj0, FN, FY, FX]
 obtain ⟨t, ht, hg⟩ := AK1 hl hk hc (n := 100) (by omega)
 obtain ⟨body, c, d, hB, hloop⟩ := AL7 (x := x) hg (by omega)
 have hgp : GoodP (⟨x.Name, x.From, x.At, x.Fuel, x.Params, body⟩ : TP) := ⟨by simp only; omega, hB.len, fun a ha => (hB.ok a ha).1, Jj fun a ha => (hB.ok a ha).2⟩
 obtain ⟨N1, h1⟩ := Ap5 (⟨x.Name, x.From, x.At, x.Fuel, x.Params, body⟩ : TP) hgp.params
 obtain ⟨N2, h2⟩ := Aj5 (l := body) (by have := hB.len; simp only at this; omega) hgp.lim
 have hmax := hgp.deep
 simp only at hmax
 have htold := hB.acc.told (by simp only; omega)
 simp only at htold
 have hN : 100 ≤ 100 + N1 + N2 := by omega
 have h1 := h1 (100 + N1 + N2) (by omega)
 have h2 := h2 (100 + N1 + N2) (by omega)
 simp only at h1 h2
 refine ⟨100 + N1 + N2, ((⟨x.Name, x.From, x.At, x.Fuel, x.Params, body⟩ : TP), (B2 (sumN nS body) (maxD dS body)).1, (B2 (sumN nS body) (maxD dS body)).2, GP (⟨x.Name, x.From, x.At, x.Fuel, x.Params, body⟩ : TP), true), ?_, .inr ⟨hgp, rfl, rfl, rfl, rfl⟩⟩
 rw [Md, (Y7 hN).ap false hb]
 simp only [g1, g2, g3, g4, g5, decide_false, Option.bind_some, cond_false, FN, FY, FX, H5]
 rw [(XD hN).ap t ht, Option.bind_some, hloop _ hN, Az1]
 simp only [H8, cond_false, htold, h1, h2, Option.bind_some, GP]
 rw [← Ax0]
 generalize Sn (⟨x.Name, x.From, x.At, x.Fuel, x.Params, body⟩ : TP) = b1
 generalize decide ((B2 (sumN nS body) (maxD dS body)).1 ≤ 300) = b2
 generalize decide ((B2 (sumN nS body) (maxD dS body)).2 ≤ 12) = b3
 generalize body.all okS = b4
 cases b1 <;> cases b2 <;> cases b3 <;> simp
end Go.Ax
