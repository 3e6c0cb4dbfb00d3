import Derived.Test.YtojkpenjeglipaaGreatTWP7
import Derived.Test.YtojkpenjeglipaaGreatTWM
import Derived.Test.YtojkpenjeglipaaGreatTWD0
import Derived.Test.YtojkpenjeglipaaGreatTWD1
import Derived.Test.YtojkpenjeglipaaGreatTWD2
import Derived.Test.YtojkpenjeglipaaGreatTWD3
import Derived.Test.YtojkpenjeglipaaGreatTWD4
import Derived.Test.YtojkpenjeglipaaGreatTWD5
import Derived.Test.YtojkpenjeglipaaGreatTWD6
import Derived.Test.YtojkpenjeglipaaGreatTWD7
import Derived.Test.YtojkpenjeglipaaGreatTWD8
import Derived.Test.YtojkpenjeglipaaGreatTWD9
import Derived.Test.YtojkpenjeglipaaGreatTWD10
import Derived.Test.YtojkpenjeglipaaGreatTWD11
import Derived.Test.YtojkpenjeglipaaGreatTWD12
import Derived.Test.YtojkpenjeglipaaGreatTWD13
import Derived.Test.YtojkpenjeglipaaGreatTWD14
import Derived.Test.YtojkpenjeglipaaGreatTWD15
set_option linter.unusedSimpArgs false
set_option linter.unusedVariables false
namespace Go.Ax
theorem BE9 {σ ρ : Type} {F : Nat → σ → Int → Option ρ} (Inv : Nat → σ → Prop) (P : Option ρ → Prop) (B : Nat)
   (hstep : ∀ (m i : Nat) (s : σ), Inv i s → i ≤ B → P (F (m + 1) s (i : Int)) ∨ (i < B ∧ ∃ s', Inv (i + 1) s' ∧ F (m + 1) s (i : Int) = F m s' ((i + 1 : Nat) : Int))) : ∀ (k m i : Nat) (s : σ), i + k = B → k < m → Inv i s → P (F m s (i : Int))
 | 0, m, i, s, hi, hm, hinv => by
   obtain ⟨m, rfl⟩ : ∃ q, m = q + 1 := ⟨m - 1, by omega⟩
   rcases hstep m i s hinv (by omega) with h | ⟨h, _⟩
   · exact h
   · omega
 | k + 1, m, i, s, hi, hm, hinv => by
   obtain ⟨m, rfl⟩ : ∃ q, m = q + 1 := ⟨m - 1, by omega⟩
   rcases hstep m i s hinv (by omega) with h | ⟨_, s', h1, h2⟩
   · exact h
   · rw [h2]; exact BE9 Inv P B hstep k m (i + 1) s' (by omega) (by omega) h1
theorem loop_inv0 {σ ρ : Type} {F : Nat → σ → Int → Option ρ} (Inv : Nat → σ → Prop) (P : Option ρ → Prop) (B : Nat)
   (hstep : ∀ (m i : Nat) (s : σ), Inv i s → i ≤ B → P (F (m + 1) s (i : Int)) ∨ (i < B ∧ ∃ s', Inv (i + 1) s' ∧ F (m + 1) s (i : Int) = F m s' ((i + 1 : Nat) : Int))) {m : Nat} (hm : B < m) {s : σ} (h0 : Inv 0 s) : P (F m s 0) := BE9 Inv P B hstep B m 0 s (by omega) hm h0
theorem BY3 (k : Int) : 0 ≤ IntKind.wrap .u64 k ∧ IntKind.wrap .u64 k < 18446744073709551616 := by
 simp [IntKind.wrap, IntKind.bits, IntKind.signed]
 omega
theorem Bd1 (k : Int) (a : Nat) (ha : a ≤ 50) : (a = 0 ∧ HT k (a : Int) = some (-1)) ∨ ∃ j : Nat, j < a ∧ HT k (a : Int) = some (j : Int) := by
 unfold HT
 by_cases h : a = 0
 · left; subst h; exact ⟨rfl, rfl⟩
 · right
   have h0 : ¬ (a : Int) = 0 := by omega
   have hu : IntKind.wrap .u64 (a : Int) = (a : Int) := by
     simp [IntKind.wrap, IntKind.bits, IntKind.signed]; omega
   rw [hu]
   have hk := BY3 k
   generalize IntKind.wrap .u64 k = q at hk ⊢
   have hm0 : 0 ≤ Int.tmod q (a : Int) := Int.tmod_nonneg _ hk.1
   have hm1 : Int.tmod q (a : Int) < (a : Int) := Int.tmod_lt_of_pos _ (by omega)
   generalize Int.tmod q (a : Int) = r at hm0 hm1 ⊢
   have e1 : IntKind.wrap .i64 ((a : Int) - 1) = (a : Int) - 1 := EH (by omega) (by omega)
   have e2 : IntKind.wrap .i64 r = r := EH (by omega) (by omega)
   have e3 : IntKind.wrap .i64 ((a : Int) - 1 - r) = (a : Int) - 1 - r := EH (by omega) (by omega)
   refine ⟨((a : Int) - 1 - r).toNat, by omega, ?_⟩
   simp only [h0, decide_false, cond_false, Br2, ne_eq, not_false_eq_true, decide_true, if_true, Option.bind_some, e1, e2, e3]
   congr 1
   omega
def HR (e : TE) : Int := (C6 (nE e) (dE e)).1
def TX (e : TE) : Int := (C6 (nE e) (dE e)).2
def CU (e : TS) : Int := (C6 (nS e) (dS e)).1
def E2 (e : TS) : Int := (C6 (nS e) (dS e)).2
structure InvE (es : List TE) (ns ds : List Int) : Prop where
 n : ns = es.map HR
 d : ds = es.map TX
 e : ∀ (i : Nat) (x : TE), es[i]? = some x → LimE x ∧ dE x ≤ i + 1
structure InvS (ss : List TS) (ns ds : List Int) : Prop where
 n : ns = ss.map CU
 d : ds = ss.map E2
 e : ∀ (i : Nat) (x : TS), ss[i]? = some x → LimS x ∧ dS x ≤ i + 60
def Bo9 (n d : Int) (N D : Nat) : Prop := (N < 1000 → n = N ∧ d = D) ∧ (1000 ≤ N → 1000 ≤ n) ∧ 0 ≤ n ∧ 0 ≤ d ∧ d ≤ 1001
theorem Bo9.told {n d : Int} {N D : Nat} (h : Bo9 n d N D) (hd : D ≤ 900) : DI n d = C6 N D := by
 unfold DI SZ C6
 by_cases hN : N < 1000
 · obtain ⟨h1, h2⟩ := h.1 hN
   have e1 : ¬ (1000 : Int) ≤ n := by omega
   have e2 : ¬ (1000 : Int) ≤ d := by omega
   have e3 : ¬ (1000 ≤ N ∨ 1000 ≤ D) := by omega
   simp only [e1, e2, e3, decide_false, cond_false, if_false]
   rw [h1, h2]
 · have := h.2.1 (by omega)
   have e3 : 1000 ≤ N ∨ 1000 ≤ D := by omega
   simp [this, e3]
theorem VU (N D : Nat) : 0 ≤ (C6 N D).1 ∧ (C6 N D).1 ≤ 1000 ∧ 0 ≤ (C6 N D).2 ∧ (C6 N D).2 ≤ 1000 := by
 unfold C6; split
 · exact ⟨by decide, by decide, by decide, by decide⟩
 · exact ⟨by simp, by simp; omega, by simp, by simp; omega⟩
theorem Bo9.add {n d : Int} {N D K E : Nat} (h : Bo9 n d N D) (hn : n ≤ 100000) (hD : D ≤ 900) (hE : E ≤ 900) : Bo9 (IntKind.wrap .i64 (n + (C6 K E).1)) (max d (IntKind.wrap .i64 ((C6 K E).2 + 1))) (N + K) (max D (E + 1)) := by
 have b := VU K E
 obtain ⟨h1, h2, h3, h4, h5⟩ := h
 have e1 : IntKind.wrap .i64 (n + (C6 K E).1) = n + (C6 K E).1 := EH (by omega) (by omega)
 have e2 : IntKind.wrap .i64 ((C6 K E).2 + 1) = (C6 K E).2 + 1 := EH (by omega) (by omega)
 rw [e1, e2]
 have t1 : K < 1000 → (C6 K E).1 = K ∧ (C6 K E).2 = E := fun hk => by
   unfold C6; rw [if_neg (by omega)]; exact ⟨rfl, rfl⟩
 have t2 : 1000 ≤ K → (C6 K E).1 = 1000 := fun hk => by
   unfold C6; rw [if_pos (by omega)]
 refine ⟨fun hlt => ?_, fun hge => ?_, by omega, by omega, by omega⟩
 · have := h1 (by omega); have := t1 (by omega); omega
 · by_cases hN : N < 1000
   · by_cases hK : K < 1000
     · have := h1 hN; have := t1 hK; omega
     · have := t2 (by omega); omega
   · have := h2 (by omega); omega
theorem Lg {α : Type} {b : Nat} {l ys : List α} (h : l.length + ys.length ≤ 1000) (hb : b ≤ 1000) : MM b l ys = some (l ++ ys) := by
 unfold MM
 rw [if_pos]
 calc (l.length + ys.length) * b ≤ 1000 * 1000 := Nat.mul_le_mul h hb
   _ ≤ _ := by decide
theorem BF7 {α : Type} {P : Nat → α → Prop} {l : List α} {x : α} (h : ∀ i y, l[i]? = some y → P i y) (hx : P l.length x) : ∀ i y, (l ++ [x])[i]? = some y → P i y := fun i y hy => by
 by_cases hi : i < l.length
 · rw [List.getElem?_append_left hi] at hy; exact h i y hy
 · rw [List.getElem?_append_right (by omega)] at hy
   have : i = l.length := by
     have := (List.getElem?_eq_some_iff.1 hy).1
     simp at this; omega
   subst this
   simp at hy; subst hy; exact hx
theorem Ws {α : Type} (N : α → Nat) (l : List α) (x : α) : CB N (l ++ [x]) = CB N l + N x := by rw [BB9]; simp [CB]
theorem Vg {α : Type} (N : α → Nat) (l : List α) (x : α) : BZ N (l ++ [x]) = max (BZ N l) (N x) := by rw [BB2]; simp [BZ]
theorem Rj {α : Type} {D : α → Nat} {b : Nat} : ∀ {l : List α}, (∀ x, x ∈ l → D x ≤ b) → BZ D l ≤ b
 | [], _ => by simp [BZ]
 | x :: r, h => by rw [BZ]; have := h x (by simp); have := Rj (l := r) fun y hy => h y (by simp [hy]); omega
structure KidsE (i : Nat) (k : Nat) (s : List TE × Int × Int) : Prop where
 len : s.1.length ≤ k
 ok : ∀ a, a ∈ s.1 → LimE a ∧ dE a ≤ i
 acc : Bo9 s.2.1 s.2.2 (CB nE s.1 + 1) (BZ dE s.1 + 1)
 small : s.2.1 ≤ 1 + 1000 * k
theorem BT4 {es : List TE} {ns ds : List Int} (hinv : InvE es ns ds) (hlen : es.length < 50) {x : TLeaf} {rec : List TE → List Int → List Int → Int → Option TTree} {n : Nat} (hn : 10 < n) :
   ∃ e, InvE (es ++ [e]) (ns ++ [HR e]) (ds ++ [TX e]) ∧ CH es ns ds (es.length : Int) rec x n [] (1 : Int) (1 : Int) (0 : Int) = rec (es ++ [e]) (ns ++ [HR e]) (ds ++ [TX e]) ((es.length + 1 : Nat) : Int) := by
 refine loop_inv0 (F := fun m (s : List TE × Int × Int) v => CH es ns ds (es.length : Int) rec x m s.1 s.2.1 s.2.2 v) (Inv := KidsE es.length)
   (P := fun v => ∃ e, InvE (es ++ [e]) (ns ++ [HR e]) (ds ++ [TX e]) ∧ v = rec (es ++ [e]) (ns ++ [HR e]) (ds ++ [TX e]) ((es.length + 1 : Nat) : Int)) 4 ?_ (m := n) (by omega) (s := ([], 1, 1)) ⟨by simp, fun a h => (by cases h), ⟨fun _ => by simp [CB, BZ], fun h => by simp [CB] at h, by simp, by simp, by simp⟩, by simp⟩
 intro m k s hs hk
 obtain ⟨args, c, d⟩ := s
 have hfin : ∃ e, InvE (es ++ [e]) (ns ++ [HR e]) (ds ++ [TX e]) ∧ GP es ns ds (es.length : Int) rec x args c d = rec (es ++ [e]) (ns ++ [HR e]) (ds ++ [TX e]) ((es.length + 1 : Nat) : Int) := by
   have hmax : BZ dE args ≤ es.length := Rj fun a ha => (hs.ok a ha).2
   have ht := hs.acc.told (by simp only; omega)
   simp only at ht
   refine ⟨⟨x.Op, x.N, x.S, x.Name, x.Src, args⟩, ⟨?_, ?_, ?_⟩, ?_⟩
   · rw [hinv.n]; simp
   · rw [hinv.d]; simp
   · refine BF7 (P := fun i x => LimE x ∧ dE x ≤ i + 1) hinv.e ⟨LimE.mk _ (by have := hs.len; simp only at this ⊢; omega) (fun a ha => (hs.ok a ha).1), ?_⟩
     rw [BC4]; simp only; omega
   · have l1 : ns.length = es.length := by rw [hinv.n]; simp
     have l2 : ds.length = es.length := by rw [hinv.d]; simp
     rw [GP, Lg (by simp; omega) (by decide), Option.bind_some, Lg (by simp; omega) (by decide), Option.bind_some, Lg (by simp; omega) (by decide), Option.bind_some, Bk (by omega), ht]
     have e1 : HR ⟨x.Op, x.N, x.S, x.Name, x.Src, args⟩ = (C6 (CB nE args + 1) (BZ dE args + 1)).1 := by rw [HR, Ca9, BC4]
     have e2 : TX ⟨x.Op, x.N, x.S, x.Name, x.Src, args⟩ = (C6 (CB nE args + 1) (BZ dE args + 1)).2 := by rw [TX, Ca9, BC4]
     rw [e1, e2]
 show (∃ e, _ ∧ CH es ns ds (es.length : Int) rec x (m + 1) args c d (k : Int) = _) ∨ _
 rw [CH, IH]
 by_cases hk2 : (k : Int) < (x.Kids.length : Int)
 · by_cases hk4 : (k : Int) < 4
   · right
     refine ⟨by omega, ?_⟩
     have hkl : k < x.Kids.length := by omega
     simp only [hk2, hk4, decide_true, cond_true, Fe, BC, List.getElem?_eq_getElem hkl, Option.bind_some]
     have hwk := Bk (i := k) (by omega)
     rcases Bd1 x.Kids[k] es.length (by omega) with ⟨h0, hp⟩ | ⟨j, hj, hp⟩
     · refine ⟨(args, c, d), ⟨by have := hs.len; simp only at this ⊢; omega, hs.ok, hs.acc, by have := hs.small; simp only at this ⊢; omega⟩, ?_⟩
       rw [hp]
       simp only [Option.bind_some, show ¬ (0 : Int) ≤ -1 by decide, decide_false, cond_false, hwk]
     · have hje := hinv.e j es[j] (List.getElem?_eq_getElem hj)
       have hnj : ns[j]? = some (HR es[j]) := by rw [hinv.n, List.getElem?_map, List.getElem?_eq_getElem hj]; rfl
       have hdj : ds[j]? = some (TX es[j]) := by rw [hinv.d, List.getElem?_map, List.getElem?_eq_getElem hj]; rfl
       have hsl := hs.len
       have hss := hs.small
       simp only at hsl hss
       have hmax : BZ dE args ≤ es.length := Rj fun a ha => (hs.ok a ha).2
       have hacc := hs.acc.add (K := nE es[j]) (E := dE es[j]) (by simp only; omega) (by simp only; omega) (by omega)
       have hb := VU (nE es[j]) (dE es[j])
       refine ⟨(args ++ [es[j]], IntKind.wrap .i64 (c + HR es[j]), max d (IntKind.wrap .i64 (TX es[j] + 1))), ⟨by simp; omega, fun a ha => ?_, ?_, ?_⟩, ?_⟩
       · rcases List.mem_append.1 ha with ha | ha
         · exact hs.ok a ha
         · have : a = es[j] := by simpa using ha
           subst this; exact ⟨hje.1, by omega⟩
       · simp only [Ws, Vg]
         have e1 : CB nE args + nE es[j] + 1 = CB nE args + 1 + nE es[j] := by omega
         have e2 : max (BZ dE args) (dE es[j]) + 1 = max (BZ dE args + 1) (dE es[j] + 1) := by omega
         rw [e1, e2]; exact hacc
       · have : IntKind.wrap .i64 (c + HR es[j]) = c + HR es[j] := by
           have h0 := hs.acc.2.2.1
           simp only at h0
           exact EH (by unfold HR; omega) (by unfold HR; omega)
         simp only [this]; unfold HR; omega
       · rw [hp]
         simp only [Option.bind_some, show (0 : Int) ≤ (j : Int) by omega, decide_true, cond_true, BC, List.getElem?_eq_getElem hj, hnj, hdj, Lg (show args.length + [es[j]].length ≤ 1000 by simp; omega) (show 88 ≤ 1000 by decide), hwk]
   · left
     simp only [hk2, hk4, decide_true, decide_false, cond_true, cond_false, Fe]
     exact hfin
 · left
   simp only [hk2, decide_false, cond_false, Fe]
   exact hfin
structure ExprsK (es : List TE) (k : Nat) (s : List TE × Int × Int) : Prop where
 len : s.1.length ≤ k
 ok : ∀ a, a ∈ s.1 → LimE a ∧ dE a ≤ 50
 acc : Bo9 s.2.1 s.2.2 (CB nE s.1 + 1) (BZ dE s.1 + 1)
 small : s.2.1 ≤ 1 + 1000 * k
structure BodyK (i : Nat) (xs : List TE) (k : Nat) (s : List TS × List TS × Int × Int) : Prop where
 len : s.1.length + s.2.1.length ≤ k
 ok : ∀ a, a ∈ s.1 ∨ a ∈ s.2.1 → LimS a ∧ dS a ≤ i + 59
 acc : Bo9 s.2.2.1 s.2.2.2 (CB nE xs + (CB nS s.1 + CB nS s.2.1) + 1) (max (BZ dE xs) (max (BZ dS s.1) (BZ dS s.2.1)) + 1)
 small : s.2.2.1 ≤ 10001 + 1000 * k
theorem BC7 {ss : List TS} {ms ps : List Int} (hinv : InvS ss ms ps) (hlen : ss.length < 50) {x : TKnot} (hcols : x.Cols.length ≤ 12) {rec : List TS → List Int → List Int → Int → Option TTree} {n : Nat} (hn : 20 < n)
   {xs : List TE} (hxl : xs.length ≤ 10) (hxs : ∀ a, a ∈ xs → LimE a ∧ dE a ≤ 50) {c0 d0 : Int} (hacc : Bo9 c0 d0 (CB nE xs + 1) (BZ dE xs + 1)) (hc0 : c0 ≤ 10001) :
   ∃ e, InvS (ss ++ [e]) (ms ++ [CU e]) (ps ++ [E2 e]) ∧ BY ss ms ps (ss.length : Int) rec x xs n [] [] c0 d0 (0 : Int) = rec (ss ++ [e]) (ms ++ [CU e]) (ps ++ [E2 e]) ((ss.length + 1 : Nat) : Int) := by
 refine loop_inv0 (F := fun m (s : List TS × List TS × Int × Int) v => BY ss ms ps (ss.length : Int) rec x xs m s.1 s.2.1 s.2.2.1 s.2.2.2 v) (Inv := BodyK ss.length xs)
   (P := fun v => ∃ e, InvS (ss ++ [e]) (ms ++ [CU e]) (ps ++ [E2 e]) ∧ v = rec (ss ++ [e]) (ms ++ [CU e]) (ps ++ [E2 e]) ((ss.length + 1 : Nat) : Int)) 10 ?_ (m := n) (by omega) (s := ([], [], c0, d0)) ⟨by simp, fun a h => (by rcases h with h | h <;> cases h), by simpa [CB, BZ] using hacc, by simpa using hc0⟩
 intro m k s hs hk
 obtain ⟨bs, cs, c, d⟩ := s
 have hxm : BZ dE xs ≤ 50 := Rj fun a ha => (hxs a ha).2
 have hbm : BZ dS bs ≤ ss.length + 59 := Rj fun a ha => (hs.ok a (.inl ha)).2
 have hcm : BZ dS cs ≤ ss.length + 59 := Rj fun a ha => (hs.ok a (.inr ha)).2
 have hsl := hs.len
 have hss := hs.small
 simp only at hsl hss
 have hfin : ∃ e, InvS (ss ++ [e]) (ms ++ [CU e]) (ps ++ [E2 e]) ∧ GW ss ms ps (ss.length : Int) rec x xs bs cs c d = rec (ss ++ [e]) (ms ++ [CU e]) (ps ++ [E2 e]) ((ss.length + 1 : Nat) : Int) := by
   have ht := hs.acc.told (by simp only; omega)
   simp only at ht
   refine ⟨⟨x.Op, x.Name, x.Src, x.N, x.Cols, xs, bs, cs⟩, ⟨?_, ?_, ?_⟩, ?_⟩
   · rw [hinv.n]; simp
   · rw [hinv.d]; simp
   · refine BF7 (P := fun i x => LimS x ∧ dS x ≤ i + 60) hinv.e ⟨LimS.mk _ hcols hxl (by simp only; omega) (by simp only; omega) (fun a ha => (hxs a ha).1) (fun a ha => (hs.ok a (.inl ha)).1) (fun a ha => (hs.ok a (.inr ha)).1), ?_⟩
     rw [BF6]; simp only; omega
   · have l1 : ms.length = ss.length := by rw [hinv.n]; simp
     have l2 : ps.length = ss.length := by rw [hinv.d]; simp
     rw [GW, Lg (by simp; omega) (by decide), Option.bind_some, Lg (by simp; omega) (by decide), Option.bind_some, Lg (by simp; omega) (by decide), Option.bind_some, Bk (by omega), ht]
     have e1 : CU ⟨x.Op, x.Name, x.Src, x.N, x.Cols, xs, bs, cs⟩ = (C6 (CB nE xs + (CB nS bs + CB nS cs) + 1) (max (BZ dE xs) (max (BZ dS bs) (BZ dS cs)) + 1)).1 := by rw [CU, BV6, BF6]
     have e2 : E2 ⟨x.Op, x.Name, x.Src, x.N, x.Cols, xs, bs, cs⟩ = (C6 (CB nE xs + (CB nS bs + CB nS cs) + 1) (max (BZ dE xs) (max (BZ dS bs) (BZ dS cs)) + 1)).2 := by rw [E2, BV6, BF6]
     rw [e1, e2]
 have hwk := Bk (i := k) (by omega)
 -- what follows the place that was picked
 have hgo : k < 10 → ∀ j7 : Int, (j7 = -1 ∨ ∃ j : Nat, j < ss.length ∧ j7 = (j : Int)) → ∃ s', BodyK ss.length xs (k + 1) s' ∧ EL ss ms ps x (BY ss ms ps (ss.length : Int) rec x xs m) bs cs c d (k : Int) j7 = BY ss ms ps (ss.length : Int) rec x xs m s'.1 s'.2.1 s'.2.2.1 s'.2.2.2 ((k + 1 : Nat) : Int) := by
   intro hk10 j7 hj7
   rcases hj7 with rfl | ⟨j, hj, rfl⟩
   · refine ⟨(bs, cs, c, d), ⟨by simp only; omega, hs.ok, hs.acc, by simp only; omega⟩, ?_⟩
     simp only [EL, show (-1 : Int) < 0 by decide, decide_true, cond_true, hwk]
   · have hje := hinv.e j ss[j] (List.getElem?_eq_getElem hj)
     have hnj : ms[j]? = some (CU ss[j]) := by rw [hinv.n, List.getElem?_map, List.getElem?_eq_getElem hj]; rfl
     have hdj : ps[j]? = some (E2 ss[j]) := by rw [hinv.d, List.getElem?_map, List.getElem?_eq_getElem hj]; rfl
     have hacc2 := hs.acc.add (K := nS ss[j]) (E := dS ss[j]) (by simp only; omega) (by simp only; omega) (by omega)
     simp only at hacc2
     have hb := VU (nS ss[j]) (dS ss[j])
     have hw1 : IntKind.wrap .i64 (c + CU ss[j]) = c + CU ss[j] := by
       have h0 := hs.acc.2.2.1
       simp only at h0
       exact EH (by unfold CU; omega) (by unfold CU; omega)
     by_cases hin : (k : Int) < (x.Body.length : Int)
     · refine ⟨(bs ++ [ss[j]], cs, IntKind.wrap .i64 (c + CU ss[j]), max d (IntKind.wrap .i64 (E2 ss[j] + 1))), ⟨by simp; omega, fun a ha => ?_, ?_, ?_⟩, ?_⟩
       · rcases ha with ha | ha
         · rcases List.mem_append.1 ha with ha | ha
           · exact hs.ok a (.inl ha)
           · have : a = ss[j] := by simpa using ha
             subst this; exact ⟨hje.1, by omega⟩
         · exact hs.ok a (.inr ha)
       · simp only [Ws, Vg]
         have e1 : CB nE xs + (CB nS bs + nS ss[j] + CB nS cs) + 1 = CB nE xs + (CB nS bs + CB nS cs) + 1 + nS ss[j] := by omega
         have e2 : max (BZ dE xs) (max (max (BZ dS bs) (dS ss[j])) (BZ dS cs)) + 1 = max (max (BZ dE xs) (max (BZ dS bs) (BZ dS cs)) + 1) (dS ss[j] + 1) := by omega
         rw [e1, e2]; exact hacc2
       · simp only [hw1]; unfold CU; omega
       · simp only [EL, show ¬ (j : Int) < 0 by omega, hin, decide_true, decide_false, cond_true, cond_false, BC, List.getElem?_eq_getElem hj, hnj, hdj, Option.bind_some, Lg (show bs.length + [ss[j]].length ≤ 1000 by simp; omega) (show 144 ≤ 1000 by decide), hwk]
     · refine ⟨(bs, cs ++ [ss[j]], IntKind.wrap .i64 (c + CU ss[j]), max d (IntKind.wrap .i64 (E2 ss[j] + 1))), ⟨by simp; omega, fun a ha => ?_, ?_, ?_⟩, ?_⟩
       · rcases ha with ha | ha
         · exact hs.ok a (.inl ha)
         · rcases List.mem_append.1 ha with ha | ha
           · exact hs.ok a (.inr ha)
           · have : a = ss[j] := by simpa using ha
             subst this; exact ⟨hje.1, by omega⟩
       · simp only [Ws, Vg]
         have e1 : CB nE xs + (CB nS bs + (CB nS cs + nS ss[j])) + 1 = CB nE xs + (CB nS bs + CB nS cs) + 1 + nS ss[j] := by omega
         have e2 : max (BZ dE xs) (max (BZ dS bs) (max (BZ dS cs) (dS ss[j]))) + 1 = max (max (BZ dE xs) (max (BZ dS bs) (BZ dS cs)) + 1) (dS ss[j] + 1) := by omega
         rw [e1, e2]; exact hacc2
       · simp only [hw1]; unfold CU; omega
       · simp only [EL, show ¬ (j : Int) < 0 by omega, hin, decide_true, decide_false, cond_true, cond_false, BC, List.getElem?_eq_getElem hj, hnj, hdj, Option.bind_some, Lg (show cs.length + [ss[j]].length ≤ 1000 by simp; omega) (show 144 ≤ 1000 by decide), hwk]
 have hpick : ∀ q : Int, ∃ j7 : Int, HT q (ss.length : Int) = some j7 ∧ (j7 = -1 ∨ ∃ j : Nat, j < ss.length ∧ j7 = (j : Int)) := fun q => by
   rcases Bd1 q ss.length (by omega) with ⟨_, hp⟩ | ⟨j, hj, hp⟩
   · exact ⟨-1, hp, .inl rfl⟩
   · exact ⟨j, hp, .inr ⟨j, hj, rfl⟩⟩
 show (∃ e, _ ∧ BY ss ms ps (ss.length : Int) rec x xs (m + 1) bs cs c d (k : Int) = _) ∨ (_ ∧ ∃ s', _ ∧ BY ss ms ps (ss.length : Int) rec x xs (m + 1) bs cs c d (k : Int) = _)
 rw [BY, IL]
 by_cases hk2 : (k : Int) < IntKind.wrap .i64 ((x.Body.length : Int) + (x.Else.length : Int))
 · by_cases hk4 : (k : Int) < 10
   · right
     refine ⟨by omega, ?_⟩
     simp only [hk2, hk4, decide_true, cond_true, Fk]
     by_cases hin : (k : Int) < (x.Body.length : Int)
     · have hkl : k < x.Body.length := by omega
       obtain ⟨j7, hp, hj7⟩ := hpick x.Body[k]
       simp only [hin, decide_true, cond_true, BC, List.getElem?_eq_getElem hkl, Option.bind_some, hp]
       exact hgo (by omega) j7 hj7
     · have hlb : x.Body.length ≤ k := by omega
       have hle : k - x.Body.length < x.Else.length := by
         rcases Nat.lt_or_ge (k - x.Body.length) x.Else.length with h | h
         · exact h
         · exfalso
           rw [EH (by omega) (by omega)] at hk2
           omega
       have hwi : IntKind.wrap .i64 ((k : Int) - (x.Body.length : Int)) = ((k - x.Body.length : Nat) : Int) := by
         rw [EH (by omega) (by omega)]; omega
       obtain ⟨j7, hp, hj7⟩ := hpick x.Else[k - x.Body.length]
       simp only [hin, decide_false, cond_false, hwi, BC, List.getElem?_eq_getElem hle, Option.bind_some, hp]
       exact hgo (by omega) j7 hj7
   · left
     simp only [hk2, hk4, decide_true, decide_false, cond_true, cond_false, Fk]
     exact hfin
 · left
   simp only [hk2, decide_false, cond_false, Fk]
   exact hfin
theorem BR8 {es : List TE} {ns ds : List Int} (hE : InvE es ns ds) (hel : es.length ≤ 50) {ss : List TS} {ms ps : List Int} (hinv : InvS ss ms ps) (hlen : ss.length < 50) {x : TKnot} (hcols : x.Cols.length ≤ 12) {rec : List TS → List Int → List Int → Int → Option TTree} {n : Nat} (hn : 20 < n) :
   ∃ e, InvS (ss ++ [e]) (ms ++ [CU e]) (ps ++ [E2 e]) ∧ Co n es ns ds ss ms ps (ss.length : Int) rec x n [] (1 : Int) (1 : Int) (0 : Int) = rec (ss ++ [e]) (ms ++ [CU e]) (ps ++ [E2 e]) ((ss.length + 1 : Nat) : Int) := by
 refine loop_inv0 (F := fun m (s : List TE × Int × Int) v => Co n es ns ds ss ms ps (ss.length : Int) rec x m s.1 s.2.1 s.2.2 v) (Inv := ExprsK es)
   (P := fun v => ∃ e, InvS (ss ++ [e]) (ms ++ [CU e]) (ps ++ [E2 e]) ∧ v = rec (ss ++ [e]) (ms ++ [CU e]) (ps ++ [E2 e]) ((ss.length + 1 : Nat) : Int)) 10 ?_ (m := n) (by omega) (s := ([], 1, 1)) ⟨by simp, fun a h => (by cases h), ⟨fun _ => by simp [CB, BZ], fun h => by simp [CB] at h, by simp, by simp, by simp⟩, by simp⟩
 intro m k s hs hk
 obtain ⟨args, c, d⟩ := s
 have hsl := hs.len
 have hss := hs.small
 simp only at hsl hss
 have hfin : ∃ e, InvS (ss ++ [e]) (ms ++ [CU e]) (ps ++ [E2 e]) ∧ GR n ss ms ps (ss.length : Int) rec x args c d = rec (ss ++ [e]) (ms ++ [CU e]) (ps ++ [E2 e]) ((ss.length + 1 : Nat) : Int) := by
   rw [GR]
   exact BC7 (xs := args) hinv hlen hcols hn (by omega) hs.ok hs.acc (by omega)
 show (∃ e, _ ∧ Co n es ns ds ss ms ps (ss.length : Int) rec x (m + 1) args c d (k : Int) = _) ∨ (_ ∧ ∃ s', _ ∧ Co n es ns ds ss ms ps (ss.length : Int) rec x (m + 1) args c d (k : Int) = _)
 rw [Co, IJ]
 by_cases hk2 : (k : Int) < (x.Exprs.length : Int)
 · by_cases hk4 : (k : Int) < 10
   · right
     refine ⟨by omega, ?_⟩
     have hkl : k < x.Exprs.length := by omega
     simp only [hk2, hk4, decide_true, cond_true, E8, BC, List.getElem?_eq_getElem hkl, Option.bind_some]
     have hwk := Bk (i := k) (by omega)
     rcases Bd1 x.Exprs[k] es.length (by omega) with ⟨h0, hp⟩ | ⟨j, hj, hp⟩
     · refine ⟨(args, c, d), ⟨by simp only; omega, hs.ok, hs.acc, by simp only; omega⟩, ?_⟩
       rw [hp]
       simp only [Option.bind_some, show ¬ (0 : Int) ≤ -1 by decide, decide_false, cond_false, hwk]
     · have hje := hE.e j es[j] (List.getElem?_eq_getElem hj)
       have hnj : ns[j]? = some (HR es[j]) := by rw [hE.n, List.getElem?_map, List.getElem?_eq_getElem hj]; rfl
       have hdj : ds[j]? = some (TX es[j]) := by rw [hE.d, List.getElem?_map, List.getElem?_eq_getElem hj]; rfl
       have hmax : BZ dE args ≤ 50 := Rj fun a ha => (hs.ok a ha).2
       have hacc := hs.acc.add (K := nE es[j]) (E := dE es[j]) (by simp only; omega) (by simp only; omega) (by omega)
       have hb := VU (nE es[j]) (dE es[j])
       refine ⟨(args ++ [es[j]], IntKind.wrap .i64 (c + HR es[j]), max d (IntKind.wrap .i64 (TX es[j] + 1))), ⟨by simp; omega, fun a ha => ?_, ?_, ?_⟩, ?_⟩
       · rcases List.mem_append.1 ha with ha | ha
         · exact hs.ok a ha
         · have : a = es[j] := by simpa using ha
           subst this; exact ⟨hje.1, by omega⟩
       · simp only [Ws, Vg]
         have e1 : CB nE args + nE es[j] + 1 = CB nE args + 1 + nE es[j] := by omega
         have e2 : max (BZ dE args) (dE es[j]) + 1 = max (BZ dE args + 1) (dE es[j] + 1) := by omega
         rw [e1, e2]; exact hacc
       · have : IntKind.wrap .i64 (c + HR es[j]) = c + HR es[j] := by
           have h0 := hs.acc.2.2.1
           simp only at h0
           exact EH (by unfold HR; omega) (by unfold HR; omega)
         simp only [this]; unfold HR; omega
       · rw [hp]
         simp only [Option.bind_some, show (0 : Int) ≤ (j : Int) by omega, decide_true, cond_true, BC, List.getElem?_eq_getElem hj, hnj, hdj, Lg (show args.length + [es[j]].length ≤ 1000 by simp; omega) (show 88 ≤ 1000 by decide), hwk]
   · left
     simp only [hk2, hk4, decide_true, decide_false, cond_true, cond_false, E8]
     exact hfin
 · left
   simp only [hk2, decide_false, cond_false, E8]
   exact hfin
structure GoodT (t : TTree) : Prop where
 e : InvE t.Exprs t.Nodes t.Depth
 s : InvS t.Stmts t.Much t.Deep
 len : t.Stmts.length ≤ 50
theorem BX8 {ls : List TLeaf} {ks : List TKnot} (h1 : ls.length ≤ 50) (h2 : ks.length ≤ 50) (h3 : ∀ x, x ∈ ks → x.Cols.length ≤ 12) {n : Nat} (hn : 60 < n) : ∃ t, MU n ls ks = some t ∧ GoodT t := by
 unfold MU
 have hknots : ∀ (es : List TE) (ns ds : List Int), InvE es ns ds → es.length ≤ 50 → ∃ t, B7 ks n es ns ds n [] [] [] (0 : Int) = some t ∧ GoodT t := by
   intro es ns ds hE hel
   refine loop_inv0 (F := fun m (s : List TS × List Int × List Int) v => B7 ks n es ns ds m s.1 s.2.1 s.2.2 v) (Inv := fun i s => InvS s.1 s.2.1 s.2.2 ∧ s.1.length = i)
     (P := fun v => ∃ t, v = some t ∧ GoodT t) 50 ?_ (m := n) (by omega) (s := ([], [], [])) ⟨⟨rfl, rfl, fun i x h => by simp at h⟩, rfl⟩
   intro m i s hs hi
   obtain ⟨ss, ms, ps⟩ := s
   obtain ⟨hS, rfl⟩ := hs
   replace hS : InvS ss ms ps := hS
   show (∃ t, B7 ks n es ns ds (m + 1) ss ms ps (ss.length : Int) = _ ∧ _) ∨ (_ ∧ ∃ s', _ ∧ B7 ks n es ns ds (m + 1) ss ms ps (ss.length : Int) = _)
   rw [B7, IE]
   by_cases hk : (ss.length : Int) < (ks.length : Int)
   · have hk50 : (ss.length : Int) < 50 := by omega
     have hkl : ss.length < ks.length := by omega
     right
     refine ⟨show ss.length < 50 by omega, ?_⟩
     simp only [hk, hk50, decide_true, cond_true, FW, BC, List.getElem?_eq_getElem hkl, Option.bind_some]
     obtain ⟨e, hinv, he⟩ := BR8 (n := n) (rec := B7 ks n es ns ds m) hE hel hS (by omega) (h3 ks[ss.length] (List.getElem_mem _)) (by omega)
     exact ⟨(ss ++ [e], ms ++ [CU e], ps ++ [E2 e]), ⟨hinv, by simp⟩, he⟩
   · left
     simp only [hk, decide_false, cond_false, FW]
     exact ⟨_, rfl, ⟨hE, hS, by simp only at hi ⊢; omega⟩⟩
 refine loop_inv0 (F := fun m (s : List TE × List Int × List Int) v => Cp ls ks n m s.1 s.2.1 s.2.2 v) (Inv := fun i s => InvE s.1 s.2.1 s.2.2 ∧ s.1.length = i)
   (P := fun v => ∃ t, v = some t ∧ GoodT t) 50 ?_ (m := n) (by omega) (s := ([], [], [])) ⟨⟨rfl, rfl, fun i x h => by simp at h⟩, rfl⟩
 intro m i s hs hi
 obtain ⟨es, ns, ds⟩ := s
 obtain ⟨hE, rfl⟩ := hs
 replace hE : InvE es ns ds := hE
 show (∃ t, Cp ls ks n (m + 1) es ns ds (es.length : Int) = _ ∧ _) ∨ (_ ∧ ∃ s', _ ∧ Cp ls ks n (m + 1) es ns ds (es.length : Int) = _)
 rw [Cp, IC]
 by_cases hk : (es.length : Int) < (ls.length : Int)
 · have hk50 : (es.length : Int) < 50 := by omega
   have hkl : es.length < ls.length := by omega
   right
   refine ⟨show es.length < 50 by omega, ?_⟩
   simp only [hk, hk50, decide_true, cond_true, FR, BC, List.getElem?_eq_getElem hkl, Option.bind_some]
   obtain ⟨e, hinv, he⟩ := BT4 (n := n) (rec := Cp ls ks n m) hE (by omega) (x := ls[es.length]) (by omega)
   exact ⟨(es ++ [e], ns ++ [HR e], ds ++ [TX e]), ⟨hinv, by simp⟩, he⟩
 · left
   simp only [hk, decide_false, cond_false, FR]
   exact hknots es ns ds hE (by simp only at hi ⊢; omega)
end Go.Ax
namespace Go.Ax
theorem BY6 (ls : List TLeaf) (ks : List TKnot) {n : Nat} (hn : 60 < n) : ∃ b, Nc n ls ks = some b ∧ (b = false → ls.length ≤ 50 ∧ ks.length ≤ 50 ∧ ∀ x, x ∈ ks → x.Cols.length ≤ 12) := by
 unfold Nc
 by_cases h1 : (50 : Int) < (ls.length : Int)
 · exact ⟨true, by simp [h1, Fc], fun h => by cases h⟩
 by_cases h2 : (50 : Int) < (ks.length : Int)
 · exact ⟨true, by simp [h1, h2, Fc], fun h => by cases h⟩
 simp only [h1, h2, decide_false, cond_false, Fc]
 have hl : ls.length ≤ 50 := by omega
 have hk : ks.length ≤ 50 := by omega
 have hknots : ∃ b, Bq ks n n 0 = some b ∧ (b = false → ls.length ≤ 50 ∧ ks.length ≤ 50 ∧ ∀ x, x ∈ ks → x.Cols.length ≤ 12) := by
   refine loop_inv0 (F := fun m (_ : Unit) v => Bq ks n m v) (Inv := fun i _ => i ≤ ks.length ∧ ∀ j x, j < i → ks[j]? = some x → x.Cols.length ≤ 12)
     (P := fun v => ∃ b, v = some b ∧ (b = false → ls.length ≤ 50 ∧ ks.length ≤ 50 ∧ ∀ x, x ∈ ks → x.Cols.length ≤ 12)) 50 ?_ (m := n) (by omega) (s := ()) ⟨by omega, fun j x h => by omega⟩
   intro m i u ⟨hi, hinv⟩ hi50
   show (∃ b, Bq ks n (m + 1) (i : Int) = _ ∧ _) ∨ (_ ∧ ∃ s', _ ∧ Bq ks n (m + 1) (i : Int) = _)
   rw [Bq, II]
   by_cases hik : (i : Int) < (ks.length : Int)
   · have hil : i < ks.length := by omega
     simp only [hik, decide_true, cond_true, BC, List.getElem?_eq_getElem hil, Option.bind_some, GZ, GX]
     generalize hx : ks[i] = x
     have hxm : ks[i]? = some x := by rw [List.getElem?_eq_getElem hil, hx]
     by_cases a1 : (100 : Int) < (x.Name.size : Int)
     · left; exact ⟨true, by simp [a1], fun h => by cases h⟩
     by_cases a2 : (100 : Int) < (x.Src.size : Int)
     · left; exact ⟨true, by simp [a1, a2], fun h => by cases h⟩
     by_cases a3 : (12 : Int) < (x.Cols.length : Int)
     · left; exact ⟨true, by simp [a1, a2, a3], fun h => by cases h⟩
     simp only [a1, a2, a3, decide_false, cond_false]
     have hinner : (∃ b, B9 ks (Bq ks n m) (i : Int) n 0 = some b ∧ b = true) ∨ B9 ks (Bq ks n m) (i : Int) n 0 = Bq ks n m ((i + 1 : Nat) : Int) := by
       refine loop_inv0 (F := fun m' (_ : Unit) v => B9 ks (Bq ks n m) (i : Int) m' v) (Inv := fun k _ => k ≤ x.Cols.length)
         (P := fun v => (∃ b, v = some b ∧ b = true) ∨ v = Bq ks n m ((i + 1 : Nat) : Int)) 12 ?_ (m := n) (by omega) (s := ()) (by omega)
       intro m' k u hkl hk12
       show (_ ∨ B9 ks (Bq ks n m) (i : Int) (m' + 1) (k : Int) = _) ∨ (_ ∧ ∃ s', _ ∧ B9 ks (Bq ks n m) (i : Int) (m' + 1) (k : Int) = _)
       rw [B9, IK]
       simp only [BC, hxm, Option.bind_some]
       by_cases hkc : (k : Int) < (x.Cols.length : Int)
       · have hkl2 : k < x.Cols.length := by omega
         simp only [hkc, decide_true, cond_true, List.getElem?_eq_getElem hkl2, Option.bind_some]
         by_cases a4 : (100 : Int) < (x.Cols[k].size : Int)
         · left; left; exact ⟨true, by simp [a4], rfl⟩
         · right
           refine ⟨by omega, (), by omega, ?_⟩
           simp only [a4, decide_false, cond_false]
           rw [Bk (by omega)]
       · left; right
         simp only [hkc, decide_false, cond_false]
         rw [Bk (by omega)]
     rcases hinner with ⟨b, hb, rfl⟩ | hb
     · left; exact ⟨true, hb, fun h => by cases h⟩
     · right
       refine ⟨by omega, (), ⟨by omega, fun j y hj hy => ?_⟩, hb⟩
       rcases Nat.lt_or_ge j i with h | h
       · exact hinv j y h hy
       · have : j = i := by omega
         subst this
         rw [hxm] at hy; cases hy; omega
   · left
     refine ⟨false, by simp [hik], fun _ => ⟨hl, hk, fun x hx => ?_⟩⟩
     obtain ⟨j, hj, rfl⟩ := List.getElem_of_mem hx
     exact hinv j _ (by omega) (List.getElem?_eq_getElem hj)
 refine loop_inv0 (F := fun m (_ : Unit) v => CG ls ks n m v) (Inv := fun i _ => i ≤ ls.length)
   (P := fun v => ∃ b, v = some b ∧ (b = false → ls.length ≤ 50 ∧ ks.length ≤ 50 ∧ ∀ x, x ∈ ks → x.Cols.length ≤ 12)) 50 ?_ (m := n) (by omega) (s := ()) (by omega)
 intro m i u hi hi50
 show (∃ b, CG ls ks n (m + 1) (i : Int) = _ ∧ _) ∨ (_ ∧ ∃ s', _ ∧ CG ls ks n (m + 1) (i : Int) = _)
 rw [CG, IB]
 by_cases hik : (i : Int) < (ls.length : Int)
 · have hil : i < ls.length := by omega
   simp only [hik, decide_true, cond_true, BC, List.getElem?_eq_getElem hil, Option.bind_some, GO]
   by_cases a1 : (300 : Int) < (ls[i].S.size : Int)
   · left; exact ⟨true, by simp [a1], fun h => by cases h⟩
   by_cases a2 : (100 : Int) < (ls[i].Name.size : Int)
   · left; exact ⟨true, by simp [a1, a2], fun h => by cases h⟩
   by_cases a3 : (100 : Int) < (ls[i].Src.size : Int)
   · left; exact ⟨true, by simp [a1, a2, a3], fun h => by cases h⟩
   right
   refine ⟨by omega, (), by omega, ?_⟩
   simp only [a1, a2, a3, decide_false, cond_false]
   rw [Bk (by omega)]
 · left
   simp only [hik, decide_false, cond_false, Ir]
   exact hknots
def BT1 (n d : Int) (N D : Nat) : Prop := (N < 1000 → n = N ∧ d = D) ∧ (1000 ≤ N → 1000 ≤ n) ∧ 0 ≤ n ∧ 0 ≤ d ∧ d ≤ 1000
theorem BT1.told {n d : Int} {N D : Nat} (h : BT1 n d N D) (hd : D ≤ 900) : DI n d = C6 N D :=
 Bo9.told ⟨h.1, h.2.1, h.2.2.1, h.2.2.2.1, by have := h.2.2.2.2; omega⟩ hd
theorem BT1.add {n d : Int} {N D K E : Nat} (h : BT1 n d N D) (hn : n ≤ 100000) (hD : D ≤ 900) (hE : E ≤ 900) : BT1 (IntKind.wrap .i64 (n + (C6 K E).1)) (max d (C6 K E).2) (N + K) (max D E) := by
 have b := VU K E
 obtain ⟨h1, h2, h3, h4, h5⟩ := h
 have e1 : IntKind.wrap .i64 (n + (C6 K E).1) = n + (C6 K E).1 := EH (by omega) (by omega)
 rw [e1]
 have t1 : K < 1000 → (C6 K E).1 = K ∧ (C6 K E).2 = E := fun hk => by
   unfold C6; rw [if_neg (by omega)]; exact ⟨rfl, rfl⟩
 have t2 : 1000 ≤ K → (C6 K E).1 = 1000 := fun hk => by
   unfold C6; rw [if_pos (by omega)]
 refine ⟨fun hlt => ?_, fun hge => ?_, by omega, by omega, by omega⟩
 · have := h1 (by omega); have := t1 (by omega); omega
 · by_cases hN : N < 1000
   · by_cases hK : K < 1000
     · have := h1 hN; have := t1 hK; omega
     · have := t2 (by omega); omega
   · have := h2 (by omega); omega
structure GoodP (p : TP) : Prop where
 params : p.Params.length ≤ 12
 body : p.Body.length ≤ 12
 lim : ∀ x, x ∈ p.Body → LimS x
 deep : BZ dS p.Body ≤ 120
structure Good (v : TP × Int × Int × Bool × Bool) : Prop where
 p : GoodP v.1
 n : v.2.1 = (C6 (CB nS v.1.Body) (BZ dS v.1.Body)).1
 d : v.2.2.1 = (C6 (CB nS v.1.Body) (BZ dS v.1.Body)).2
 right : v.2.2.2.1 = AP4 v.1
 ok : v.2.2.2.2 = true
structure BodyL (k : Nat) (s : List TS × Int × Int) : Prop where
 len : s.1.length ≤ k
 ok : ∀ a, a ∈ s.1 → LimS a ∧ dS a ≤ 120
 acc : BT1 s.2.1 s.2.2 (CB nS s.1) (BZ dS s.1)
 small : s.2.1 ≤ 1000 * k
theorem BL4 (N D : Nat) : (decide ((C6 N D).1 ≤ 300) && decide ((C6 N D).2 ≤ 12)) = decide (N ≤ 300 ∧ D ≤ 12) := by
 unfold C6
 split
 · rename_i h
   rw [Bool.eq_iff_iff]; simp; omega
 · rw [Bool.eq_iff_iff]; simp; omega
def Bf5 (x : LSay) : TP × Int × Int × Bool × Bool := ((⟨x.Name, x.From, x.At, x.Fuel, x.Params, []⟩ : TP), (0 : Int), (0 : Int), false, false)
def BN6 (x : LSay) (t : TTree) (N : Nat) (body : List TS) (c d : Int) : Option (TP × Int × Int × Bool × Bool) := SE x N t body c d 0 (fun _ _ _ _ => none) false
theorem Cd9 {x : LSay} {t : TTree} (hg : GoodT t) (hb : x.Body.length ≤ 12) : ∃ (body : List TS) (c d : Int), BodyL 12 (body, c, d) ∧ ∀ N, 100 ≤ N → Hj x N t N [] (0 : Int) (0 : Int) (0 : Int) = BN6 x t N body c d := by
 have hts := hg.s
 have htl := hg.len
 have start : BodyL 0 ([], (0 : Int), (0 : Int)) := ⟨by simp, fun a h => (by cases h), ⟨fun _ => by simp [CB, BZ], fun h => by simp [CB] at h, by simp, by simp, by simp⟩, by simp⟩
 by_cases hst : (0 : Int) < (t.Stmts.length : Int)
 · have hj : ∀ q : Int, ∃ j : Nat, j < t.Stmts.length ∧ Br2 (decide ((IntKind.wrap .u64 (t.Stmts.length : Int)) ≠ 0)) = some () ∧ IntKind.wrap .i64 ((IntKind.wrap .i64 ((t.Stmts.length : Int) - (1 : Int))) - (IntKind.wrap .i64 (Int.tmod (IntKind.wrap .u64 q) (IntKind.wrap .u64 (t.Stmts.length : Int))))) = (j : Int) := fun q => by
     rcases Bd1 q t.Stmts.length htl with ⟨h0, _⟩ | ⟨j, hj, hp⟩
     · omega
     · unfold HT at hp
       have hne : ¬ (t.Stmts.length : Int) = 0 := by omega
       simp only [hne, decide_false, cond_false] at hp
       obtain ⟨u, hu, hp⟩ := bind_some hp
       simp only [Option.some.injEq] at hp
       exact ⟨j, hj, hu, hp⟩
   have ⟨J, hJ⟩ := Classical.axiomOfChoice hj
   let St : Int → TS := fun q => t.Stmts[J q]'((hJ q).1)
   let g : List TS × Int × Int → Nat → Int → Option (TP × Int × Int × Bool × Bool) ⊕ (List TS × Int × Int) := fun s _ q => match MM 144 s.1 [St q] with
     | some b => .inr (b, IntKind.wrap .i64 (s.2.1 + CU (St q)), max s.2.2 (E2 (St q)))
     | none => .inl none
   have key : ∀ (r : List Int) (i k : Nat) (s : List TS × Int × Int), BodyL k s → k + r.length ≤ 12 → ∃ s', BodyL 12 s' ∧ ∀ fin, ID g fin r i s = fin s' := by
     intro r
     induction r with
     | nil => intro i k s hs hk; exact ⟨s, ⟨by have := hs.len; simp at hk; omega, hs.ok, hs.acc, by have := hs.small; simp at hk; omega⟩, fun fin => rfl⟩
     | cons q r ih =>
       intro i k s hs hk
       obtain ⟨body, c, d⟩ := s
       have hsl := hs.len
       have hss := hs.small
       simp only at hsl hss
       simp only [List.length_cons] at hk
       have hje := hts.e (J q) (St q) (List.getElem?_eq_getElem (hJ q).1)
       have hJl := (hJ q).1
       have hmax : BZ dS body ≤ 120 := Rj fun a ha => (hs.ok a ha).2
       have hacc := hs.acc.add (K := nS (St q)) (E := dS (St q)) (by simp only; omega) (by simp only; omega) (by omega)
       have hbd := VU (nS (St q)) (dS (St q))
       have hw1 : IntKind.wrap .i64 (c + CU (St q)) = c + CU (St q) := by
         have h0 := hs.acc.2.2.1
         simp only at h0
         exact EH (by unfold CU; omega) (by unfold CU; omega)
       have hap : MM 144 body [St q] = some (body ++ [St q]) := Lg (by simp; omega) (by decide)
       obtain ⟨s', h1, h2⟩ := ih (i + 1) (k + 1) (body ++ [St q], IntKind.wrap .i64 (c + CU (St q)), max d (E2 (St q))) ⟨by simp; omega, fun a ha => by
           rcases List.mem_append.1 ha with ha | ha
           · exact hs.ok a ha
           · have : a = St q := by simpa using ha
             subst this; exact ⟨hje.1, by omega⟩, by simp only [Ws, Vg]; exact hacc, by simp only [hw1]; unfold CU; omega⟩ (by omega)
       refine ⟨s', h1, fun fin => ?_⟩
       rw [ID]
       have : g (body, c, d) i q = .inr (body ++ [St q], IntKind.wrap .i64 (c + CU (St q)), max d (E2 (St q))) := by
         show (match MM 144 body [St q] with | some b => _ | none => _) = _
         rw [hap]
       rw [this]
       exact h2 fin
   obtain ⟨⟨body, c, d⟩, hB, hr⟩ := key x.Body 0 0 ([], 0, 0) start (by omega)
   refine ⟨body, c, d, hB, fun N hN => ?_⟩
   have := CT (l := x.Body) (F := fun m (s : List TS × Int × Int) v => Hj x N t m s.1 s.2.1 s.2.2 v) (g := g) (fin := fun s => BN6 x t N s.1 s.2.1 s.2.2)
     (fun m i q s hq => by
       have hlt := Cs hq
       show Hj x N t (m + 1) s.1 s.2.1 s.2.2 (i : Int) = _
       rw [Hj, Vr]
       have h1 : (i : Int) < (x.Body.length : Int) := by omega
       have hnj : t.Much[J q]? = some (CU (St q)) := by rw [hts.n, List.getElem?_map, List.getElem?_eq_getElem (hJ q).1]; rfl
       have hdj : t.Deep[J q]? = some (E2 (St q)) := by rw [hts.d, List.getElem?_map, List.getElem?_eq_getElem (hJ q).1]; rfl
       have hsj : t.Stmts[J q]? = some (St q) := List.getElem?_eq_getElem (hJ q).1
       simp only [h1, hst, decide_true, cond_true, SE, BC, hq, Option.bind_some, (hJ q).2.1, (hJ q).2.2, hsj, hnj, hdj, Bk (show i < 9223372036854775807 by omega)]
       have hgd : g s i q = (match MM 144 s.1 [St q] with | some b => .inr (b, IntKind.wrap .i64 (s.2.1 + CU (St q)), max s.2.2 (E2 (St q))) | none => .inl none : Option (TP × Int × Int × Bool × Bool) ⊕ (List TS × Int × Int)) := rfl
       rw [hgd]
       cases MM 144 s.1 [St q] <;> rfl)
     (fun m s => by
       show Hj x N t (m + 1) s.1 s.2.1 s.2.2 _ = _
       rw [Hj, Vr]
       simp only [Int.lt_irrefl, decide_false, cond_false]
       rfl) (m := N) (by omega) ([], 0, 0)
   have h2 := hr (fun s => BN6 x t N s.1 s.2.1 s.2.2)
   exact this.trans h2
 · refine ⟨[], 0, 0, ⟨by simp, start.ok, start.acc, by simp⟩, fun N hN => ?_⟩
   obtain ⟨m, rfl⟩ : ∃ m, N = m + 1 := ⟨N - 1, by omega⟩
   rw [Hj, Vr]
   simp only [hst, decide_false]
   cases decide ((0 : Int) < (x.Body.length : Int)) <;> rfl
theorem Cj3 (x : LSay) : ∃ N v, (∀ n, N ≤ n → Af9 n x = some v) ∧ (v.2.2.2.2 = false ∨ Good v) := by
 obtain ⟨b, hb, hbf⟩ := BY6 x.Leaves x.Knots (n := 100) (by omega)
 have hj0 : ∀ n, SY x n true = some (Bf5 x) := fun n => rfl
 by_cases hgreat : b = true
 · refine ⟨100, Bf5 x, fun n hn => ?_, .inl rfl⟩
   rw [Af9, (JR hn).ap _ hb, hgreat]
   simp only [Option.bind_some, cond_true, hj0, Ia, Iq, Is]
 have hbfalse : b = false := by cases b <;> simp_all
 subst hbfalse
 obtain ⟨hl, hk, hc⟩ := hbf rfl
 by_cases g1 : (12 : Int) < (x.Params.length : Int)
 · refine ⟨100, Bf5 x, fun n hn => ?_, .inl rfl⟩
   rw [Af9, (JR hn).ap _ hb]
   simp only [g1, decide_true, Option.bind_some, cond_true, cond_false, hj0, Ia, Iq, Is]
 by_cases g2 : (12 : Int) < (x.Body.length : Int)
 · refine ⟨100, Bf5 x, fun n hn => ?_, .inl rfl⟩
   rw [Af9, (JR hn).ap _ hb]
   simp only [g1, g2, decide_true, decide_false, Option.bind_some, cond_true, cond_false, hj0, Ia, Iq, Is]
 by_cases g3 : (100 : Int) < (x.Name.size : Int)
 · refine ⟨100, Bf5 x, fun n hn => ?_, .inl rfl⟩
   rw [Af9, (JR hn).ap _ hb]
   simp only [g1, g2, g3, decide_true, decide_false, Option.bind_some, cond_true, cond_false, hj0, Ia, Iq, Is]
 by_cases g4 : (100 : Int) < (x.From.size : Int)
 · refine ⟨100, Bf5 x, fun n hn => ?_, .inl rfl⟩
   rw [Af9, (JR hn).ap _ hb]
   simp only [g1, g2, g3, g4, decide_true, decide_false, Option.bind_some, cond_true, cond_false, hj0, Ia, Iq, Is]
 by_cases g5 : (100 : Int) < (x.At.size : Int)
 · refine ⟨100, Bf5 x, fun n hn => ?_, .inl rfl⟩
   rw [Af9, (JR hn).ap _ hb]
   simp only [g1, g2, g3, g4, g5, decide_true, decide_false, Option.bind_some, cond_true, cond_false, hj0, Ia, Iq, Is]
 obtain ⟨t, ht, hg⟩ := BX8 hl hk hc (n := 100) (by omega)
 obtain ⟨body, c, d, hB, hloop⟩ := Cd9 (x := x) hg (by omega)
 have hgp : GoodP (⟨x.Name, x.From, x.At, x.Fuel, x.Params, body⟩ : TP) := ⟨by simp only; omega, hB.len, fun a ha => (hB.ok a ha).1, Rj fun a ha => (hB.ok a ha).2⟩
 obtain ⟨N1, h1⟩ := BE0 (⟨x.Name, x.From, x.At, x.Fuel, x.Params, body⟩ : TP) hgp.params
 obtain ⟨N2, h2⟩ := Bt7 (l := body) (by have := hB.len; simp only at this; omega) hgp.lim
 have hmax := hgp.deep
 simp only at hmax
 have htold := hB.acc.told (by simp only; omega)
 simp only at htold
 refine ⟨100 + N1 + N2, ((⟨x.Name, x.From, x.At, x.Fuel, x.Params, body⟩ : TP), (C6 (CB nS body) (BZ dS body)).1, (C6 (CB nS body) (BZ dS body)).2, AP4 (⟨x.Name, x.From, x.At, x.Fuel, x.Params, body⟩ : TP), true), fun n hn => ?_, .inr ⟨hgp, rfl, rfl, rfl, rfl⟩⟩
 have hN : 100 ≤ n := by omega
 have h1 := h1 n (by omega)
 have h2 := h2 n (by omega)
 simp only at h1 h2
 rw [Af9, (JR hN).ap false hb]
 simp only [g1, g2, g3, g4, g5, decide_false, Option.bind_some, cond_false, Ia, Iq, Is, SY]
 rw [(BJ4 hN).ap t ht, Option.bind_some, hloop _ hN, BN6]
 simp only [SE, cond_false, htold, h1, h2, Option.bind_some, AP4]
 rw [← BL4]
 generalize As9 (⟨x.Name, x.From, x.At, x.Fuel, x.Params, body⟩ : TP) = b1
 generalize decide ((C6 (CB nS body) (BZ dS body)).1 ≤ 300) = b2
 generalize decide ((C6 (CB nS body) (BZ dS body)).2 ≤ 12) = b3
 generalize body.all okS = b4
 cases b1 <;> cases b2 <;> cases b3 <;> simp
end Go.Ax
namespace Go.Ax
theorem AI2 {α : Type} (l : List α) (q : α → Bool) (F : Nat → Int → Option Bool) (fin : Option Bool) (hl : l.length < 1000)
   (hs : ∀ m v, F (m + 1) v = bif (decide (v < (l.length : Int))) then ((Dw l v).bind fun x => bif q x then some true else F m (IntKind.wrap .i64 (v + (1 : Int)))) else fin) :
   ∀ (k i m : Nat), i + k = l.length → k < m → F m (i : Int) = bif (l.drop i).any q then some true else fin
 | 0, i, m, hi, hm => by
   cases m with
   | zero => omega
   | succ m =>
     rw [hs, List.drop_of_length_le (by omega)]
     have : ¬ ((i : Int) < (l.length : Int)) := by omega
     simp [this]
 | k + 1, i, m, hi, hm => by
   cases m with
   | zero => omega
   | succ m =>
     have hlt : i < l.length := by omega
     have h1 : (i : Int) < (l.length : Int) := by omega
     rw [hs, List.drop_eq_getElem_cons hlt, List.any_cons, BC, List.getElem?_eq_getElem hlt, Bk (by omega)]
     simp only [h1, decide_true, cond_true, Option.bind_some]
     have ih := AI2 l q F fin hl hs k (i + 1) m (by omega) (by omega)
     cases q l[i] with
     | true => rfl
     | false => simpa using ih
theorem BK6 (c : T_api_Catalog) : ∃ r, Ev (fun n => BU n c) r := by
 by_cases h : c.Tables.length ≤ 10 ∧ c.Streams.length ≤ 10 ∧ c.Windows.length ≤ 10 ∧ c.Sinks.length ≤ 10 ∧ c.Procs.length ≤ 10
 · obtain ⟨h1, h2, h3, h4, h5⟩ := h
   have l0 : ∀ n, 12 ≤ n → CA c n (0 : Int) = bif c.Sinks.any (fun x => decide ((12 : Int) < (x.Cols.length : Int))) then some true else some false := fun n hn =>
     AI2 c.Sinks (fun x => decide ((12 : Int) < (x.Cols.length : Int))) (fun m v => CA c m v) (some false) (by omega) (fun m v => rfl) c.Sinks.length 0 n (by omega) (by omega)
   have l1 : ∀ n, 12 ≤ n → Cz c n n (0 : Int) = bif c.Streams.any (fun x => decide ((12 : Int) < (x.Cols.length : Int))) then some true else C1 c n := fun n hn =>
     AI2 c.Streams (fun x => decide ((12 : Int) < (x.Cols.length : Int))) (fun m v => Cz c n m v) (C1 c n) (by omega) (fun m v => rfl) c.Streams.length 0 n (by omega) (by omega)
   have l2 : ∀ n, 12 ≤ n → Cx c n n (0 : Int) = bif c.Tables.any (fun x => decide ((12 : Int) < (x.Cols.length : Int))) then some true else C5 c n := fun n hn =>
     AI2 c.Tables (fun x => decide ((12 : Int) < (x.Cols.length : Int))) (fun m v => Cx c n m v) (C5 c n) (by omega) (fun m v => rfl) c.Tables.length 0 n (by omega) (by omega)
   have g1 : ¬ ((10 : Int) < (c.Tables.length : Int)) := by omega
   have g2 : ¬ ((10 : Int) < (c.Streams.length : Int)) := by omega
   have g3 : ¬ ((10 : Int) < (c.Windows.length : Int)) := by omega
   have g4 : ¬ ((10 : Int) < (c.Sinks.length : Int)) := by omega
   have g5 : ¬ ((10 : Int) < (c.Procs.length : Int)) := by omega
   refine ⟨bif c.Tables.any (fun x => decide ((12 : Int) < (x.Cols.length : Int))) then true else bif c.Streams.any (fun x => decide ((12 : Int) < (x.Cols.length : Int))) then true else bif c.Sinks.any (fun x => decide ((12 : Int) < (x.Cols.length : Int))) then true else false, 12, fun n hn => ?_⟩
   simp only [BU, BA, Bz, Bj, g1, g2, g3, g4, g5, decide_false, cond_false, l2 n hn, C5, l1 n hn, C1, l0 n hn]
   cases c.Tables.any (fun x => decide ((12 : Int) < (x.Cols.length : Int))) <;> cases c.Streams.any (fun x => decide ((12 : Int) < (x.Cols.length : Int))) <;> cases c.Sinks.any (fun x => decide ((12 : Int) < (x.Cols.length : Int))) <;> rfl
 · refine ⟨true, 0, fun n _ => ?_⟩
   by_cases g1 : (10 : Int) < (c.Tables.length : Int)
   · simp only [BU, BA, Bz, Bj, g1, decide_true, cond_true]
   by_cases g2 : (10 : Int) < (c.Streams.length : Int)
   · simp only [BU, BA, Bz, Bj, g1, g2, decide_true, decide_false, cond_true, cond_false]
   by_cases g3 : (10 : Int) < (c.Windows.length : Int)
   · simp only [BU, BA, Bz, Bj, g1, g2, g3, decide_true, decide_false, cond_true, cond_false]
   by_cases g4 : (10 : Int) < (c.Sinks.length : Int)
   · simp only [BU, BA, Bz, Bj, g1, g2, g3, g4, decide_true, decide_false, cond_true, cond_false]
   have g5 : (10 : Int) < (c.Procs.length : Int) := by omega
   simp only [BU, BA, Bz, Bj, g1, g2, g3, g4, g5, decide_true, decide_false, cond_true, cond_false]
theorem Cb1 (c : T_api_Catalog) (x : LSay) : ∃ n, Dm n c x = some true := by
 obtain ⟨N0, v, h0, hg⟩ := Cj3 x
 obtain ⟨r, N1, h1⟩ := BK6 c
 rcases hg with hg | hg
 · refine ⟨N0, ?_⟩
   rw [Dm, h0 N0 (Nat.le_refl _), Option.bind_some, hg]
   rfl
 · obtain ⟨⟨hp, hb, hlim, hdeep⟩, hn', hd', hr, hok⟩ := hg
   obtain ⟨N2, h2⟩ := Ca2 (p := v.1) hp (by omega) hlim (by omega)
   refine ⟨N0 + N1 + N2, ?_⟩
   have h0 := h0 (N0 + N1 + N2) (by omega)
   have h1 := h1 (N0 + N1 + N2) (by omega)
   have h2 := h2 (N0 + N1 + N2) (by omega)
   simp only at h1 h2
   rw [Dm, h0, Option.bind_some, hok]
   simp only [Bool.not_true, cond_false]
   rw [hr]
   cases hrb : AP4 v.1 with
   | true => rfl
   | false =>
     rw [hrb] at h2
     simp only [cond_false, h1, Option.bind_some]
     cases r with
     | true => rfl
     | false =>
       have hf : Iw (N0 + N1 + N2) c v.1 = some 1 := by
         rw [Iw, h2]; rfl
       have e1 : HD (N0 + N1 + N2) c v.1 = some ([], false) := by
         rw [HD, hf]; rfl
       have e2 : IA (N0 + N1 + N2) c v.1 = some 1 := by
         rw [IA, hf]; rfl
       show BK c (N0 + N1 + N2) v false = some true
       rw [BK]
       show ((HD (N0 + N1 + N2) c v.1).bind fun v5 => ((IA (N0 + N1 + N2) c v.1).bind fun v6 => (bif (decide (v6 = (1 : Int))) then (B3 v5 (decide ((v5.1.length : Int) = (0 : Int)))) else (B3 v5 false)))) = some true
       rw [e1, e2]
       rfl
end Go.Ax
