import Derived.Test.YtojkpenjeglipaaIYP9
import Derived.Test.YtojkpenjeglipaaIYD9
import Derived.Test.YtojkpenjeglipaaIYD10
import Derived.Test.YtojkpenjeglipaaIYD19
import Derived.Test.YtojkpenjeglipaaIYD20
import Derived.Sort.Walk0
import Derived.Test.YtojkpenjeglipaaIYD18
set_option linter.unusedVariables false
set_option linter.unusedSimpArgs false
namespace Go.Ax
theorem AP4 (a b : ByteArray) : ltS a b = decide (a.data.toList < b.data.toList) := by
 unfold ltS
 rw [Go.Proofs.bytesLess_eq, ByteArray.toList_eq, ByteArray.toList_eq]
mutual
def rE : TE → List ByteArray
 | ⟨op, _, _, _, src, args⟩ => (if KM op = true then [src] else []) ++ rEs args
def rEs : List TE → List ByteArray
 | [] => []
 | a :: l => rE a ++ rEs l
end
theorem AH6 : ∀ l, rEs l = l.flatMap rE
 | [] => rfl
 | a :: l => by rw [rEs, AH6 l]; rfl
theorem AO6 (e : TE) : rE e = (if KM e.Op = true then [e.Src] else []) ++ e.Args.flatMap rE := by cases e; rw [rE, AH6]
def PL (b : Bool) (s : ByteArray) : List ByteArray := if b = true then [s] else []
mutual
def uS (w : Int) : TS → List ByteArray
 | ⟨op, _, src, _, _, exprs, body, els⟩ => PL (decide (w = 0 ∧ 4 ≤ op ∧ op ≤ 6) || (decide (w = 1 ∧ 3 ≤ op ∧ op ≤ 5) || decide (w = 2 ∧ op = 8))) src ++ ((if w = 0 then exprs.flatMap rE else []) ++ (uSs w body ++ uSs w els))
def uSs (w : Int) : List TS → List ByteArray
 | [] => []
 | a :: l => uS w a ++ uSs w l
end
theorem Av3 (w : Int) : ∀ l, uSs w l = l.flatMap (uS w)
 | [] => rfl
 | a :: l => by rw [uSs, Av3 w l]; rfl
def I3 (w op : Int) : Bool := decide (w = 0 ∧ 4 ≤ op ∧ op ≤ 6) || (decide (w = 1 ∧ 3 ≤ op ∧ op ≤ 5) || decide (w = 2 ∧ op = 8))
theorem AO2 (w : Int) (x : TS) : uS w x = PL (I3 w x.Op) x.Src ++ ((if w = 0 then x.Exprs.flatMap rE else []) ++ (x.Body.flatMap (uS w) ++ x.Else.flatMap (uS w))) := by cases x; rw [uS, Av3, Av3]; rfl
theorem Lt {α : Type} {f : α → List ByteArray} {N : α → Nat} : ∀ {l : List α}, (∀ x, x ∈ l → (f x).length ≤ N x) → (l.flatMap f).length ≤ sumN N l
 | [], _ => by simp [sumN]
 | x :: r, h => by
   have h1 := h x (by simp)
   have h2 := Lt (l := r) fun y hy => h y (by simp [hy])
   simp only [List.flatMap_cons, List.length_append, sumN]; omega
theorem Ai0 {e : TE} (h : LimE e) : (rE e).length ≤ nE e := by
 induction h with
 | mk e _ _ ih =>
   rw [AO6, Am9]
   have := Lt ih
   split <;> simp only [List.length_append, List.length_cons, List.length_nil] <;> omega
theorem Au2 {x : TS} (w : Int) (h : LimS x) : (uS w x).length ≤ nS x := by
 induction h with
 | mk x _ _ _ _ he _ _ ihb ihc =>
   rw [AO2, Ac0]
   have h1 := Lt (l := x.Exprs) (f := rE) (N := nE) fun a ha => Ai0 (he a ha)
   have h2 := Lt ihb
   have h3 := Lt ihc
   unfold PL
   split <;> split <;> simp only [List.length_append, List.length_cons, List.length_nil] <;> omega
theorem XN {s : ByteArray} (h : Cf s = true) : s.size ≤ 16 := by
 simp only [Cf, Kh, Bool.and_eq_true, decide_eq_true_eq] at h
 exact h.1.2.1
theorem AN2 {e : TE} (h : okE e = true) (hr : KM e.Op = true) : e.Src.size ≤ 16 := by
 rw [Ah7, Ao4] at h
 simp only [Bool.and_eq_true] at h
 have hf := h.1.2
 unfold Ro at hf
 simp only [KM, decide_eq_true_eq] at hr
 have e21 : KM e.Op = true := by simp [KM]; omega
 rw [if_neg (by omega), if_neg (by omega), if_neg (by omega), if_neg (by omega), if_neg (by omega), if_pos e21] at hf
 simp only [Bool.and_eq_true] at hf
 exact XN hf.1.2
theorem AN3 {x : TS} (h : okS x = true) (hr : srO x.Op = true) : x.Src.size ≤ 16 := by
 rw [Aj2, EW] at h
 simp only [Bool.and_eq_true, hr, Yd, cond_true] at h
 exact XN h.1.2.2.1
theorem Mz {ks : List ByteArray} {b : ByteArray} (h1 : ks.length ≤ 1000000) (h2 : b.size ≤ 16) : Xl ks b = some (ks ++ [b]) := by
 unfold Xl; rw [if_pos (by omega)]
theorem Y2 {α ρ : Type} {f : α → List ByteArray} {step : List ByteArray → α → Option (List ByteArray)} (fin : List ByteArray → Option ρ) {N : α → Nat} : ∀ (r : List α) (i : Nat) (s : List ByteArray), (∀ x, x ∈ r → (f x).length ≤ N x) → s.length + sumN N r ≤ 1000000 → (∀ x, x ∈ r → ∀ s, s.length + N x ≤ 1000000 → step s x = some (s ++ f x)) →
   runL (fun s _ x => match step s x with | some s' => .inr s' | none => .inl none) fin r i s = fin (s ++ r.flatMap f)
 | [], i, s, _, _, _ => by simp [runL]
 | x :: r, i, s, hn, hb, hs => by
   simp only [sumN] at hb
   have hx := hn x (by simp)
   rw [runL, hs x (by simp) s (by omega)]
   simp only
   rw [Y2 fin r (i + 1) (s ++ f x) (fun y hy => hn y (by simp [hy])) (by rw [List.length_append]; omega) (fun y hy => hs y (by simp [hy]))]
   simp
theorem An7 {e : TE} (h : LimE e) : okE e = true → ∃ M, ∀ n, M ≤ n → ∀ p0 p1 p2 : List ByteArray, p0.length + nE e ≤ 1000000 → BQ n p0 p1 p2 e = some (p0 ++ rE e) := by
 induction h with
 | mk e hl hk ih =>
   intro hok
   have hall : ∀ a, a ∈ e.Args → okE a = true := by rw [Ah7] at hok; simp only [Bool.and_eq_true, List.all_eq_true] at hok; exact hok.2
   obtain ⟨M, hM⟩ := FM.bound_list (l := e.Args) (P := fun a n => ∀ p0 p1 p2 : List ByteArray, p0.length + nE a ≤ 1000000 → BQ n p0 p1 p2 a = some (p0 ++ rE a)) (fun a ha => ih a ha (hall a ha))
   refine ⟨M + 102, fun n hn p0 p1 p2 hb => ?_⟩
   obtain ⟨m, rfl⟩ : ∃ m, n = m + 1 := ⟨n - 1, by omega⟩
   rw [Am9] at hb
   have hloop : ∀ q : List ByteArray, q.length + sumN nE e.Args ≤ 1000000 → d_Suses_expr_j0 p1 p2 e (BQ m) m q = some (q ++ e.Args.flatMap rE) := by
     intro q hq
     unfold d_Suses_expr_j0
     have := BW (l := e.Args) (F := fun k s v => C4 p1 p2 e (BQ m) k s v) (g := fun s _ a => match BQ m s p1 p2 a with | some s' => .inr s' | none => .inl none) (fin := fun s => some s)
       (fun k i a s ha => by
         have hlt := BN ha
         show C4 p1 p2 e _ (k + 1) s (i : Int) = _
         rw [C4, HU, Bn, ha]
         have h1 : (i : Int) < (e.Args.length : Int) := by omega
         simp only [h1, decide_true, cond_true, Option.bind_some]
         cases BQ m s p1 p2 a with
         | none => rfl
         | some s' => simp only [Option.bind_some]; rw [Bj (by omega)])
       (fun k s => by
         show C4 p1 p2 e _ (k + 1) s _ = _
         rw [C4, HU]; simp) (m := m) (by omega) q
     rw [this]
     exact Y2 (f := rE) (step := fun s a => BQ m s p1 p2 a) (fun s => some s) (N := nE) e.Args 0 q (fun a ha => Ai0 (hk a ha)) hq (fun a ha s hs => hM a ha m (by omega) s p1 p2 hs)
   rw [BQ, Jb, Ag7, AO6]
   simp only
   cases hr : KM e.Op
   · simp only [cond_false, Bool.false_eq_true, if_false, List.nil_append]
     exact hloop p0 (by omega)
   · simp only [cond_true, if_true, Mz (ks := p0) (by omega) (AN2 hok hr), Option.bind_some]
     rw [hloop (p0 ++ [e.Src]) (by simp only [List.length_append, List.length_cons, List.length_nil]; omega)]
     simp
end Go.Ax
set_option linter.unusedVariables false
set_option linter.unusedSimpArgs false
namespace Go.Ax
abbrev L3 := (List ByteArray) × (List ByteArray) × (List ByteArray)
def Kw (s : L3) (f : Int → List ByteArray) : L3 := (s.1 ++ f 0, s.2.1 ++ f 1, s.2.2 ++ f 2)
def bd3 (s : L3) (k : Nat) : Prop := s.1.length + k ≤ 1000000 ∧ s.2.1.length + k ≤ 1000000 ∧ s.2.2.length + k ≤ 1000000
theorem Az6 {s : L3} {f : Int → List ByteArray} {a b : Nat} (h : bd3 s (a + b)) (hf : ∀ w, (f w).length ≤ a) : bd3 (Kw s f) b := by
 have h0 := hf 0
 have h1 := hf 1
 have h2 := hf 2
 obtain ⟨q1, q2, q3⟩ := h
 simp only [bd3, Kw, List.length_append]
 omega
theorem As3 {s : L3} {f g : Int → List ByteArray} : Kw (Kw s f) g = Kw s fun w => f w ++ g w := by simp [Kw]
theorem Aw6 {s : L3} {a b : Nat} (h : bd3 s a) (hb : b ≤ a) : bd3 s b := by obtain ⟨q1, q2, q3⟩ := h; exact ⟨by omega, by omega, by omega⟩
theorem VB {α ρ : Type} {f : Int → α → List ByteArray} {step : L3 → α → Option L3} (fin : L3 → Option ρ) {N : α → Nat} : ∀ (r : List α) (i : Nat) (s : L3), (∀ w x, x ∈ r → (f w x).length ≤ N x) → bd3 s (sumN N r) → (∀ x, x ∈ r → ∀ s, bd3 s (N x) → step s x = some (Kw s fun w => f w x)) →
   runL (fun s _ x => match step s x with | some s' => .inr s' | none => .inl none) fin r i s = fin (Kw s fun w => r.flatMap (f w))
 | [], i, s, _, _, _ => by simp [runL, Kw]
 | x :: r, i, s, hn, hb, hs => by
   simp only [sumN] at hb
   rw [runL, hs x (by simp) s (Aw6 hb (by omega))]
   simp only
   rw [VB fin r (i + 1) _ (fun w y hy => hn w y (by simp [hy])) (Az6 hb fun w => hn w x (by simp)) (fun y hy => hs y (by simp [hy])), As3]
   simp
theorem AQ7 {x : TS} (h : okS x = true) {s : L3} (hb : bd3 s 1) {m : Nat} {k : L3 → Option L3} (hk : ∀ v, d_Suses_stmt_j0 x (Bi m) m v.1 v.2.1 v.2.2 = k v) : Hv (Bi m) m s.1 s.2.1 s.2.2 x = k (Kw s fun w => PL (I3 w x.Op) x.Src) := by
 have hs : (x.Op = 3 ∨ x.Op = 4 ∨ x.Op = 5 ∨ x.Op = 6 ∨ x.Op = 8) → x.Src.size ≤ 16 := fun ho => AN3 h (by simp [srO]; exact ho)
 have hj : ∀ a b c, d_Suses_stmt_j0 x (Bi m) m a b c = k (a, b, c) := fun a b c => hk (a, b, c)
 obtain ⟨q1, q2, q3⟩ := hb
 simp only [Hv, G4, Bool.cond_decide, hj]
 by_cases h4 : x.Op = 4
 · have := hs (by omega)
   simp only [h4, I3, PL, Kw]
   rw [Mz (by omega) this, Mz (by omega) this]; simp
 · by_cases h5 : x.Op = 5
   · have := hs (by omega)
     simp only [h5, I3, PL, Kw]
     rw [Mz (by omega) this, Mz (by omega) this]; simp
   · by_cases h6 : x.Op = 6
     · have := hs (by omega)
       simp only [h6, I3, PL, Kw]
       rw [Mz (ks := s.1) (by omega) this]; simp
     · by_cases h3 : x.Op = 3
       · have := hs (by omega)
         simp only [h3, I3, PL, Kw]
         rw [Mz (ks := s.2.1) (by omega) this]; simp
       · by_cases h8 : x.Op = 8
         · have := hs (by omega)
           simp only [h8, I3, PL, Kw]
           rw [Mz (ks := s.2.2) (by omega) this]; simp
         · have e0 : I3 0 x.Op = false := by simp [I3]; omega
           have e1 : I3 1 x.Op = false := by simp [I3]; omega
           have e2 : I3 2 x.Op = false := by simp [I3]; omega
           simp [h4, h5, h6, h3, h8, Kw, e0, e1, e2, PL]
theorem Al9 {x : TS} (h : LimS x) : okS x = true → ∃ M, ∀ n, M ≤ n → ∀ s : L3, bd3 s (nS x) → Bi n s.1 s.2.1 s.2.2 x = some (Kw s fun w => uS w x) := by
 induction h with
 | mk x l0 l1 l2 l3 he kb kc ihb ihc =>
   intro hok
   have hok' := hok
   rw [Aj2] at hok'
   simp only [Bool.and_eq_true, List.all_eq_true] at hok'
   obtain ⟨M0, hM0⟩ := FM.bound_list (l := x.Exprs) (P := fun a n => ∀ p0 p1 p2 : List ByteArray, p0.length + nE a ≤ 1000000 → BQ n p0 p1 p2 a = some (p0 ++ rE a)) (fun a ha => An7 (he a ha) (hok'.2.1 a ha))
   obtain ⟨M1, hM1⟩ := FM.bound_list (l := x.Body ++ x.Else) (P := fun a n => ∀ s : L3, bd3 s (nS a) → Bi n s.1 s.2.1 s.2.2 a = some (Kw s fun w => uS w a)) (fun a ha => by
     rcases List.mem_append.1 ha with ha | ha
     · exact ihb a ha (hok'.2.2.1 a ha)
     · exact ihc a ha (hok'.2.2.2 a ha))
   refine ⟨M0 + M1 + 102, fun n hn s hb => ?_⟩
   obtain ⟨m, rfl⟩ : ∃ m, n = m + 1 := ⟨n - 1, by omega⟩
   rw [Ac0] at hb
   have hlim : ∀ a, a ∈ x.Body ++ x.Else → LimS a := fun a ha => by
     rcases List.mem_append.1 ha with ha | ha
     · exact kb a ha
     · exact kc a ha
   have hlen : (x.Body ++ x.Else).length ≤ 20 := by rw [List.length_append]; omega
   have hj1 : ∀ q : L3, bd3 q (sumN nS x.Body + sumN nS x.Else) → EJ x (Bi m) m q.2.1 q.2.2 q.1 = some (Kw q fun w => (x.Body ++ x.Else).flatMap (uS w)) := by
     intro q hq
     have hcl : XU 144 x.Body = some x.Body := by unfold XU; rw [if_pos (by omega)]
     unfold EJ
     rw [hcl, Option.bind_some, FU (by omega) (by omega), Option.bind_some]
     have := BW (l := x.Body ++ x.Else) (F := fun k (s : L3) v => C6 (Bi m) (x.Body ++ x.Else) k s.1 s.2.1 s.2.2 v) (g := fun (s : L3) _ a => match Bi m s.1 s.2.1 s.2.2 a with | some s' => .inr s' | none => .inl none) (fin := fun s => some s)
       (fun k i a s ha => by
         have hlt := BN ha
         show C6 _ _ (k + 1) s.1 s.2.1 s.2.2 (i : Int) = _
         rw [C6, HT, Bn, ha]
         have h1 : (i : Int) < ((x.Body ++ x.Else).length : Int) := by omega
         simp only [h1, decide_true, cond_true, Option.bind_some]
         cases Bi m s.1 s.2.1 s.2.2 a with
         | none => rfl
         | some s' => simp only [Option.bind_some]; rw [Bj (by omega)])
       (fun k s => by
         show C6 _ _ (k + 1) s.1 s.2.1 s.2.2 _ = _
         rw [C6, HT]; simp) (m := m) (by omega) q
     rw [this]
     exact VB (f := uS) (step := fun s a => Bi m s.1 s.2.1 s.2.2 a) (fun s => some s) (N := nS) (x.Body ++ x.Else) 0 q (fun w a ha => Au2 w (hlim a ha)) (by rw [Qp]; exact hq) (fun a ha s hs => hM1 a ha m (by omega) s hs)
   have hj0 : ∀ q : L3, bd3 q (sumN nE x.Exprs + (sumN nS x.Body + sumN nS x.Else)) → d_Suses_stmt_j0 x (Bi m) m q.1 q.2.1 q.2.2 = some (Kw q fun w => (if w = 0 then x.Exprs.flatMap rE else []) ++ (x.Body ++ x.Else).flatMap (uS w)) := by
     intro q hq
     unfold d_Suses_stmt_j0
     have := BW (l := x.Exprs) (F := fun k s v => C5 x (Bi m) m q.2.1 q.2.2 k s v) (g := fun s _ a => match BQ m s q.2.1 q.2.2 a with | some s' => .inr s' | none => .inl none) (fin := fun s => EJ x (Bi m) m q.2.1 q.2.2 s)
       (fun k i a s ha => by
         have hlt := BN ha
         show C5 _ _ _ _ _ (k + 1) s (i : Int) = _
         rw [C5, HM, Bn, ha]
         have h1 : (i : Int) < (x.Exprs.length : Int) := by omega
         simp only [h1, decide_true, cond_true, Option.bind_some]
         cases BQ m s q.2.1 q.2.2 a with
         | none => rfl
         | some s' => simp only [Option.bind_some]; rw [Bj (by omega)])
       (fun k s => by
         show C5 _ _ _ _ _ (k + 1) s _ = _
         rw [C5, HM]; simp) (m := m) (by omega) q.1
     obtain ⟨b1, b2, b3⟩ := hq
     have hfl := Lt (l := x.Exprs) (f := rE) (N := nE) fun a ha => Ai0 (he a ha)
     rw [this]
     refine (Y2 (f := rE) (step := fun s a => BQ m s q.2.1 q.2.2 a) (fun s => EJ x (Bi m) m q.2.1 q.2.2 s) (N := nE) x.Exprs 0 q.1 (fun a ha => Ai0 (he a ha)) (by omega) (fun a ha s hs => hM0 a ha m (by omega) s _ _ hs)).trans ?_
     rw [hj1 (q.1 ++ x.Exprs.flatMap rE, q.2.1, q.2.2) (by refine ⟨?_, ?_, ?_⟩ <;> simp only [List.length_append] <;> omega)]
     simp [Kw]
   rw [Bi]
   have e1 : ∀ w, (PL (I3 w x.Op) x.Src).length ≤ 1 := fun w => by unfold PL; split <;> simp
   have hb' : bd3 s (1 + (sumN nE x.Exprs + (sumN nS x.Body + sumN nS x.Else))) := Aw6 hb (by omega)
   rw [AQ7 hok (Aw6 hb' (by omega)) (k := fun v => d_Suses_stmt_j0 x (Bi m) m v.1 v.2.1 v.2.2) (fun v => rfl)]
   rw [hj0 _ (Az6 hb' e1), As3]
   congr 1
   simp only [AO2, List.flatMap_append]
def uP (p : TP) (w : Int) : List ByteArray := p.Body.flatMap (uS w)
theorem AM3 {p : TP} (hp : p.Params.length ≤ 12) (hl : p.Body.length ≤ 100) (h : ∀ x, x ∈ p.Body → LimS x) (hd : maxD dS p.Body ≤ 900) : Ev (fun n => KT n p) (Kw ([], [], []) fun w => if GP p = true then uP p w else []) := by
 obtain ⟨N0, h0⟩ := Ar9 hp hl h hd
 cases hr : GP p
 · refine ⟨N0, fun n hn => ?_⟩
   have h0 := h0 n hn
   simp only [hr] at h0
   show KT n p = _
   rw [KT, h0]; simp [Kw]
 · have hok : ∀ a, a ∈ p.Body → okS a = true := by
     simp only [GP, Bool.and_eq_true, List.all_eq_true] at hr; exact hr.2.2
   have hsz : sumN nS p.Body ≤ 300 := by
     simp only [GP, Bool.and_eq_true, decide_eq_true_eq] at hr; exact hr.2.1.1
   obtain ⟨M1, hM1⟩ := FM.bound_list (l := p.Body) (P := fun a n => ∀ s : L3, bd3 s (nS a) → Bi n s.1 s.2.1 s.2.2 a = some (Kw s fun w => uS w a)) (fun a ha => Al9 (h a ha) (hok a ha))
   refine ⟨N0 + M1 + 102, fun n hn => ?_⟩
   have h0 := h0 n (by omega)
   simp only [hr] at h0
   show KT n p = _
   rw [KT, h0]
   simp only [Option.bind_some, cond_true, if_true]
   have := BW (l := p.Body) (F := fun k (s : L3) v => F0 p n k s.1 s.2.1 s.2.2 v) (g := fun (s : L3) _ a => match Bi n s.1 s.2.1 s.2.2 a with | some s' => .inr s' | none => .inl none) (fin := fun s => some s)
     (fun k i a s ha => by
       have hlt := BN ha
       show F0 _ _ (k + 1) s.1 s.2.1 s.2.2 (i : Int) = _
       rw [F0, MX, Bn, ha]
       have h1 : (i : Int) < (p.Body.length : Int) := by omega
       simp only [h1, decide_true, cond_true, Option.bind_some]
       cases Bi n s.1 s.2.1 s.2.2 a with
       | none => rfl
       | some s' => simp only [Option.bind_some]; rw [Bj (by omega)])
     (fun k s => by
       show F0 _ _ (k + 1) s.1 s.2.1 s.2.2 _ = _
       rw [F0, MX]; simp) (m := n) (by omega) ([], [], [])
   simp only at this
   rw [this]
   exact VB (f := uS) (step := fun s a => Bi n s.1 s.2.1 s.2.2 a) (fun s => some s) (N := nS) p.Body 0 ([], [], []) (fun w a ha => Au2 w (h a ha)) (by simp [bd3]; omega) (fun a ha s hs => hM1 a ha n (by omega) s hs)
def HG (p : TP) (w : Int) : List ByteArray := QI (if GP p = true then uP p w else [])
theorem Wx {p : TP} (h : ∀ x, x ∈ p.Body → LimS x) (w : Int) : (if GP p = true then uP p w else []).length ≤ 300 := by
 cases hr : GP p
 · simp
 · have hsz : sumN nS p.Body ≤ 300 := by
     simp only [GP, Bool.and_eq_true, decide_eq_true_eq] at hr; exact hr.2.1.1
   have := Lt (l := p.Body) (f := uS w) (N := nS) fun a ha => Au2 w (h a ha)
   simp only [if_true, uP]; omega
theorem Ah2 {l : List ByteArray} (h : l.length ≤ 300) : K9 l = some (QI l) := by unfold K9; rw [if_pos (by omega)]
theorem Al2 {p : TP} (hp : p.Params.length ≤ 12) (hl : p.Body.length ≤ 100) (h : ∀ x, x ∈ p.Body → LimS x) (hd : maxD dS p.Body ≤ 900) : Ev (fun n => JZ n p) (HG p 0) := by
 obtain ⟨N, g⟩ := AM3 hp hl h hd
 refine ⟨N, fun n hn => ?_⟩
 have g := g n hn
 simp only at g
 show JZ n p = _
 rw [JZ, g, Option.bind_some]
 simp only [Kw, List.nil_append]
 rw [Ah2 (Wx h 0)]; rfl
end Go.Ax
set_option linter.unusedVariables false
set_option linter.unusedSimpArgs false
namespace Go.Ax
theorem Ap6 (x : ByteArray) : ∀ l : List ByteArray, (Nv x l).length ≤ l.length + 1
 | [] => by simp [Nv]
 | y :: l => by
   have := Ap6 x l
   rw [Nv]
   split
   · simp
   · split <;> simp <;> omega
def QJ (s : List ByteArray) (ns : List ByteArray) : List ByteArray := ns.foldl (fun a x => Nv x a) s
theorem XM : ∀ (ns s : List ByteArray), (QJ s ns).length ≤ s.length + ns.length
 | [], s => by simp [QJ]
 | x :: r, s => by
   have h1 := XM r (Nv x s)
   have h2 := Ap6 x s
   show (QJ (Nv x s) r).length ≤ _
   simp only [List.length_cons]; omega
theorem Y1 {x : ByteArray} : ∀ {ns s : List ByteArray}, x ∈ QJ s ns ↔ x ∈ s ∨ x ∈ ns
 | [], s => by simp [QJ]
 | y :: r, s => by
   show x ∈ QJ (Nv y s) r ↔ _
   rw [Y1, Qt, List.mem_cons]
   constructor
   · rintro ((h | h) | h)
     · exact .inr (.inl h)
     · exact .inl h
     · exact .inr (.inr h)
   · rintro (h | h | h)
     · exact .inl (.inr h)
     · exact .inl (.inl h)
     · exact .inr h
theorem RT : ∀ {ns s : List ByteArray}, He s → He (QJ s ns)
 | [], s, h => h
 | y :: r, s, h => RT (ns := r) (Mu h)
theorem Aq3 (l : List ByteArray) : QJ [] l = QI l :=
 rising_ext (RT (by simp [He])) (K3 l) fun s => by rw [Y1, Rk]; simp
theorem Ap9 {x : ByteArray} (l : List ByteArray) : ∀ (r pre : List ByteArray) (i : Nat), l = pre ++ r → pre.length = i →
   runL (ρ := List ByteArray) (fun (_ : Unit) i y => if y.data.toList < x.data.toList then .inr () else .inl (some (if y = x then l else l.take i ++ x :: l.drop i))) (fun _ => some (l ++ [x])) r i () = some (pre ++ Nv x r)
 | [], pre, i, h, hi => by simp at h; simp [runL, Nv, h]
 | y :: r, pre, i, h, hi => by
   rw [runL, Nv]
   by_cases h1 : y.data.toList < x.data.toList
   · have h2 : ¬ x.data.toList < y.data.toList := List.lt_asymm h1
     have h3 : x ≠ y := fun e => by subst e; exact List.lt_irrefl _ h1
     rw [if_pos h1, if_neg h2, if_neg h3]
     simp only
     rw [Ap9 l r (pre ++ [y]) (i + 1) (by simp [h]) (by simp [hi])]
     simp
   · rw [if_neg h1]
     simp only
     by_cases h2 : y = x
     · subst h2
       rw [if_pos rfl, if_neg h1, if_pos rfl, h]
     · have h3 : x.data.toList < y.data.toList := by
         rcases Decidable.em (x.data.toList < y.data.toList) with h3 | h3
         · exact h3
         · exact absurd (Vw (List.le_antisymm (List.not_lt.1 h3) (List.not_lt.1 h1))) h2
       rw [if_neg h2, if_pos h3, h, List.take_left' hi, List.drop_left' hi]
theorem AQ5 {l : List ByteArray} {x : ByteArray} (hl : l.length ≤ 900) {n : Nat} (hn : 901 < n) : Yo n l x = some (Nv x l) := by
 have hj1 : ∀ i : Nat, i ≤ l.length → La l x (i : Int) = some (l.take i ++ x :: l.drop i) := by
   intro i hi
   have s1 : UJ l 0 (i : Int) = some (l.take i) := by
     unfold UJ; rw [if_pos (by omega)]; simp
   have s2 : UJ l (i : Int) (l.length : Int) = some (l.drop i) := by
     unfold UJ; rw [if_pos (by omega)]; simp
   have t1 : (l.take i).length ≤ 900 := by simp; omega
   have t2 : (l.drop i).length ≤ 900 := by simp; omega
   unfold La
   rw [s1, Option.bind_some, FU (by simp; omega) (by omega), Option.bind_some, FU (by simp; omega) (by omega), Option.bind_some, s2, Option.bind_some, FU (by simp; omega) (by omega)]
   simp
 unfold Yo
 have := BW (l := l) (F := fun k (_ : Unit) v => G9 l x k v) (g := fun (_ : Unit) i y => if y.data.toList < x.data.toList then .inr () else .inl (some (if y = x then l else l.take i ++ x :: l.drop i))) (fin := fun _ => some (l ++ [x]))
   (fun k i y s hy => by
     have hlt := BN hy
     show G9 l x (k + 1) (i : Int) = _
     rw [G9, OL, Bn, hy]
     have h1 : (i : Int) < (l.length : Int) := by omega
     simp only [h1, decide_true, cond_true, Option.bind_some, AP4, Bool.cond_decide]
     by_cases h2 : y.data.toList < x.data.toList
     · simp only [h2, if_true]; rw [Bj (by omega)]
     · simp only [h2, if_false, K8, h1, decide_true, cond_true, Bn, hy, Option.bind_some, Bool.cond_decide]
       by_cases h3 : y = x
       · simp [h3]
       · simp only [h3, if_false]; exact hj1 i (by omega))
   (fun k s => by
     show G9 l x (k + 1) _ = _
     rw [G9, OL]
     simp only [Int.lt_irrefl, decide_false, cond_false, K8]
     rw [hj1 l.length (by omega)]; simp) (m := n) (by omega) ()
 rw [this]
 exact (Ap9 l l [] 0 rfl rfl).trans (by simp)
theorem AL2 (a b : List ByteArray) (h : a.length ≤ 100000) : Ev (fun n => MT n a b) (decide (a = b)) := by
 refine ⟨a.length + 2, fun n hn => ?_⟩
 show MT n a b = _
 unfold MT
 by_cases hlen : a.length = b.length
 · have e1 : ((a.length : Int) = (b.length : Int)) := by omega
   simp only [e1, decide_true, Bool.not_true, cond_false]
   have := BW (l := a) (F := fun k (_ : Unit) v => F3 a b k v) (g := fun (_ : Unit) i y => if b[i]? = some y then .inr () else .inl (some false)) (fin := fun _ => some true)
     (fun k i y s hy => by
       have hlt := BN hy
       have hb : b[i]? = some b[i] := List.getElem?_eq_getElem (by omega)
       show F3 a b (k + 1) (i : Int) = _
       rw [F3, M8, Bn, Bn, hy, hb]
       have h1 : (i : Int) < (a.length : Int) := by omega
       simp only [h1, decide_true, cond_true, Option.bind_some]
       by_cases h2 : y = b[i]
       · have h2' : b[i] = y := h2.symm
         simp only [h2', decide_true, Bool.not_true, cond_false, if_true]; rw [Bj (by omega)]
       · have h2' : ¬ b[i] = y := fun e => h2 e.symm
         simp [h2, h2'])
     (fun k s => by
       show F3 a b (k + 1) _ = _
       rw [F3, M8]; simp) (m := n) (by omega) ()
   rw [this]
   have tail : ∀ (r pre : List ByteArray) (i : Nat), a = pre ++ r → pre.length = i → b.take i = pre → runL (ρ := Bool) (fun (_ : Unit) i y => if b[i]? = some y then .inr () else .inl (some false)) (fun _ => some true) r i () = some (decide (a = b)) := by
     intro r
     induction r with
     | nil =>
       intro pre i h1 h2 h3
       rw [runL]
       have : a = b := by
         have e : i = b.length := by rw [← hlen, h1]; simp [h2]
         rw [h1, ← h3, e]; simp
       simp [this]
     | cons y r ih =>
       intro pre i h1 h2 h3
       rw [runL]
       have hi : i < b.length := by rw [← hlen, h1]; simp [h2]
       by_cases hy : b[i]? = some y
       · rw [if_pos hy]
         refine ih (pre ++ [y]) (i + 1) (by simp [h1]) (by simp [h2]) ?_
         rw [List.take_add_one, hy, h3]; rfl
       · rw [if_neg hy]
         have : a ≠ b := fun e => hy (by rw [← e, h1, ← h2]; simp)
         simp [this]
   exact (tail a [] 0 rfl rfl (by simp))
 · have e1 : ¬ ((a.length : Int) = (b.length : Int)) := by omega
   have e2 : a ≠ b := fun e => hlen (by rw [e])
   simp [e1, e2]
end Go.Ax
