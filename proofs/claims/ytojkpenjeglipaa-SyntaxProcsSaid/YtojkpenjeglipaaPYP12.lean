import Derived.Test.YtojkpenjeglipaaPYP9
import Derived.Test.YtojkpenjeglipaaPYD9
import Derived.Test.YtojkpenjeglipaaPYD10
import Derived.Test.YtojkpenjeglipaaPYD19
import Derived.Test.YtojkpenjeglipaaPYD20
import Derived.Sort.Walk0
import Derived.Test.YtojkpenjeglipaaPYD18
set_option linter.unusedVariables false
set_option linter.unusedSimpArgs false
namespace Go.Ax
theorem AW3 (a b : ByteArray) : ltS a b = decide (a.data.toList < b.data.toList) := by
 unfold ltS
 rw [Go.Proofs.bytesLess_eq, ByteArray.toList_eq, ByteArray.toList_eq]
mutual
def rE : TE → List ByteArray
 | ⟨op, _, _, _, src, args⟩ => (if JR op = true then [src] else []) ++ rEs args
def rEs : List TE → List ByteArray
 | [] => []
 | a :: l => rE a ++ rEs l
end
theorem AM0 : ∀ l, rEs l = l.flatMap rE
 | [] => rfl
 | a :: l => by rw [rEs, AM0 l]; rfl
theorem AR9 (e : TE) : rE e = (if JR e.Op = true then [e.Src] else []) ++ e.Args.flatMap rE := by cases e; rw [rE, AM0]
def MK (b : Bool) (s : ByteArray) : List ByteArray := if b = true then [s] else []
mutual
def uS (w : Int) : TS → List ByteArray
 | ⟨op, _, src, _, _, exprs, body, els⟩ => MK (decide (w = 0 ∧ 4 ≤ op ∧ op ≤ 6) || (decide (w = 1 ∧ 3 ≤ op ∧ op ≤ 5) || decide (w = 2 ∧ op = 8))) src ++ ((if w = 0 then exprs.flatMap rE else []) ++ (uSs w body ++ uSs w els))
def uSs (w : Int) : List TS → List ByteArray
 | [] => []
 | a :: l => uS w a ++ uSs w l
end
theorem AA5 (w : Int) : ∀ l, uSs w l = l.flatMap (uS w)
 | [] => rfl
 | a :: l => by rw [uSs, AA5 w l]; rfl
def Fx (w op : Int) : Bool := decide (w = 0 ∧ 4 ≤ op ∧ op ≤ 6) || (decide (w = 1 ∧ 3 ≤ op ∧ op ≤ 5) || decide (w = 2 ∧ op = 8))
theorem AO8 (w : Int) (x : TS) : uS w x = MK (Fx w x.Op) x.Src ++ ((if w = 0 then x.Exprs.flatMap rE else []) ++ (x.Body.flatMap (uS w) ++ x.Else.flatMap (uS w))) := by cases x; rw [uS, AA5, AA5]; rfl
theorem Jm {α : Type} {f : α → List ByteArray} {N : α → Nat} : ∀ {l : List α}, (∀ x, x ∈ l → (f x).length ≤ N x) → (l.flatMap f).length ≤ Bz N l
 | [], _ => by simp [Bz]
 | x :: r, h => by
   have h1 := h x (by simp)
   have h2 := Jm (l := r) fun y hy => h y (by simp [hy])
   simp only [List.flatMap_cons, List.length_append, Bz]; omega
theorem S0 {e : TE} (h : LimE e) : (rE e).length ≤ nE e := by
 induction h with
 | mk e _ _ ih =>
   rw [AR9, Al5]
   have := Jm ih
   split <;> simp only [List.length_append, List.length_cons, List.length_nil] <;> omega
theorem Ac2 {x : TS} (w : Int) (h : LimS x) : (uS w x).length ≤ nS x := by
 induction h with
 | mk x _ _ _ _ he _ _ ihb ihc =>
   rw [AO8, Ai9]
   have h1 := Jm (l := x.Exprs) (f := rE) (N := nE) fun a ha => S0 (he a ha)
   have h2 := Jm ihb
   have h3 := Jm ihc
   unfold MK
   split <;> split <;> simp only [List.length_append, List.length_cons, List.length_nil] <;> omega
theorem Zl {s : ByteArray} (h : Ci s = true) : s.size ≤ 16 := by
 simp only [Ci, KK, Bool.and_eq_true, decide_eq_true_eq] at h
 exact h.1.2.1
theorem AU5 {e : TE} (h : okE e = true) (hr : JR e.Op = true) : e.Src.size ≤ 16 := by
 rw [Wr, Am0] at h
 simp only [Bool.and_eq_true] at h
 have hf := h.1.2
 unfold RO at hf
 simp only [JR, decide_eq_true_eq] at hr
 have e21 : JR e.Op = true := by simp [JR]; omega
 rw [if_neg (by omega), if_neg (by omega), if_neg (by omega), if_neg (by omega), if_neg (by omega), if_pos e21] at hf
 simp only [Bool.and_eq_true] at hf
 exact Zl hf.1.2
theorem AU8 {x : TS} (h : okS x = true) (hr : srO x.Op = true) : x.Src.size ≤ 16 := by
 rw [V8, E1] at h
 simp only [Bool.and_eq_true, hr, YV, cond_true] at h
 exact Zl h.1.2.2.1
theorem My {ks : List ByteArray} {b : ByteArray} (h1 : ks.length ≤ 1000000) (h2 : b.size ≤ 16) : Ye ks b = some (ks ++ [b]) := by
 unfold Ye; rw [if_pos (by omega)]
theorem Z2 {α ρ : Type} {f : α → List ByteArray} {step : List ByteArray → α → Option (List ByteArray)} (fin : List ByteArray → Option ρ) {N : α → Nat} : ∀ (r : List α) (i : Nat) (s : List ByteArray), (∀ x, x ∈ r → (f x).length ≤ N x) → s.length + Bz N r ≤ 1000000 → (∀ x, x ∈ r → ∀ s, s.length + N x ≤ 1000000 → step s x = some (s ++ f x)) →
   runL (fun s _ x => match step s x with | some s' => .inr s' | none => .inl none) fin r i s = fin (s ++ r.flatMap f)
 | [], i, s, _, _, _ => by simp [runL]
 | x :: r, i, s, hn, hb, hs => by
   simp only [Bz] at hb
   have hx := hn x (by simp)
   rw [runL, hs x (by simp) s (by omega)]
   simp only
   rw [Z2 fin r (i + 1) (s ++ f x) (fun y hy => hn y (by simp [hy])) (by rw [List.length_append]; omega) (fun y hy => hs y (by simp [hy]))]
   simp
theorem At2 {e : TE} (h : LimE e) : okE e = true → ∃ M, ∀ n, M ≤ n → ∀ p0 p1 p2 : List ByteArray, p0.length + nE e ≤ 1000000 → BS n p0 p1 p2 e = some (p0 ++ rE e) := by
 induction h with
 | mk e hl hk ih =>
   intro hok
   have hall : ∀ a, a ∈ e.Args → okE a = true := by rw [Wr] at hok; simp only [Bool.and_eq_true, List.all_eq_true] at hok; exact hok.2
   obtain ⟨M, hM⟩ := Dr.bound_list (l := e.Args) (P := fun a n => ∀ p0 p1 p2 : List ByteArray, p0.length + nE a ≤ 1000000 → BS n p0 p1 p2 a = some (p0 ++ rE a)) (fun a ha => ih a ha (hall a ha))
   refine ⟨M + 102, fun n hn p0 p1 p2 hb => ?_⟩
   obtain ⟨m, rfl⟩ : ∃ m, n = m + 1 := ⟨n - 1, by omega⟩
   rw [Al5] at hb
   have hloop : ∀ q : List ByteArray, q.length + Bz nE e.Args ≤ 1000000 → d_Suses_expr_j0 p1 p2 e (BS m) m q = some (q ++ e.Args.flatMap rE) := by
     intro q hq
     unfold d_Suses_expr_j0
     have := B0 (l := e.Args) (F := fun k s v => C6 p1 p2 e (BS m) k s v) (g := fun s _ a => match BS m s p1 p2 a with | some s' => .inr s' | none => .inl none) (fin := fun s => some s)
       (fun k i a s ha => by
         have hlt := BC ha
         show C6 p1 p2 e _ (k + 1) s (i : Int) = _
         rw [C6, HZ, Bk, ha]
         have h1 : (i : Int) < (e.Args.length : Int) := by omega
         simp only [h1, decide_true, cond_true, Option.bind_some]
         cases BS m s p1 p2 a with
         | none => rfl
         | some s' => simp only [Option.bind_some]; rw [Bi (by omega)])
       (fun k s => by
         show C6 p1 p2 e _ (k + 1) s _ = _
         rw [C6, HZ]; simp) (m := m) (by omega) q
     rw [this]
     exact Z2 (f := rE) (step := fun s a => BS m s p1 p2 a) (fun s => some s) (N := nE) e.Args 0 q (fun a ha => S0 (hk a ha)) hq (fun a ha s hs => hM a ha m (by omega) s p1 p2 hs)
   rw [BS, Jg, Ap5, AR9]
   simp only
   cases hr : JR e.Op
   · simp only [cond_false, Bool.false_eq_true, if_false, List.nil_append]
     exact hloop p0 (by omega)
   · simp only [cond_true, if_true, My (ks := p0) (by omega) (AU5 hok hr), Option.bind_some]
     rw [hloop (p0 ++ [e.Src]) (by simp only [List.length_append, List.length_cons, List.length_nil]; omega)]
     simp
end Go.Ax
set_option linter.unusedVariables false
set_option linter.unusedSimpArgs false
namespace Go.Ax
abbrev L3 := (List ByteArray) × (List ByteArray) × (List ByteArray)
def Kf (s : L3) (f : Int → List ByteArray) : L3 := (s.1 ++ f 0, s.2.1 ++ f 1, s.2.2 ++ f 2)
def bd3 (s : L3) (k : Nat) : Prop := s.1.length + k ≤ 1000000 ∧ s.2.1.length + k ≤ 1000000 ∧ s.2.2.length + k ≤ 1000000
theorem AF4 {s : L3} {f : Int → List ByteArray} {a b : Nat} (h : bd3 s (a + b)) (hf : ∀ w, (f w).length ≤ a) : bd3 (Kf s f) b := by
 have h0 := hf 0
 have h1 := hf 1
 have h2 := hf 2
 obtain ⟨q1, q2, q3⟩ := h
 simp only [bd3, Kf, List.length_append]
 omega
theorem Ax2 {s : L3} {f g : Int → List ByteArray} : Kf (Kf s f) g = Kf s fun w => f w ++ g w := by simp [Kf]
theorem AC6 {s : L3} {a b : Nat} (h : bd3 s a) (hb : b ≤ a) : bd3 s b := by obtain ⟨q1, q2, q3⟩ := h; exact ⟨by omega, by omega, by omega⟩
theorem V9 {α ρ : Type} {f : Int → α → List ByteArray} {step : L3 → α → Option L3} (fin : L3 → Option ρ) {N : α → Nat} : ∀ (r : List α) (i : Nat) (s : L3), (∀ w x, x ∈ r → (f w x).length ≤ N x) → bd3 s (Bz N r) → (∀ x, x ∈ r → ∀ s, bd3 s (N x) → step s x = some (Kf s fun w => f w x)) →
   runL (fun s _ x => match step s x with | some s' => .inr s' | none => .inl none) fin r i s = fin (Kf s fun w => r.flatMap (f w))
 | [], i, s, _, _, _ => by simp [runL, Kf]
 | x :: r, i, s, hn, hb, hs => by
   simp only [Bz] at hb
   rw [runL, hs x (by simp) s (AC6 hb (by omega))]
   simp only
   rw [V9 fin r (i + 1) _ (fun w y hy => hn w y (by simp [hy])) (AF4 hb fun w => hn w x (by simp)) (fun y hy => hs y (by simp [hy])), Ax2]
   simp
theorem AX5 {x : TS} (h : okS x = true) {s : L3} (hb : bd3 s 1) {m : Nat} {k : L3 → Option L3} (hk : ∀ v, d_Suses_stmt_j0 x (Bj m) m v.1 v.2.1 v.2.2 = k v) : HG (Bj m) m s.1 s.2.1 s.2.2 x = k (Kf s fun w => MK (Fx w x.Op) x.Src) := by
 have hs : (x.Op = 3 ∨ x.Op = 4 ∨ x.Op = 5 ∨ x.Op = 6 ∨ x.Op = 8) → x.Src.size ≤ 16 := fun ho => AU8 h (by simp [srO]; exact ho)
 have hj : ∀ a b c, d_Suses_stmt_j0 x (Bj m) m a b c = k (a, b, c) := fun a b c => hk (a, b, c)
 obtain ⟨q1, q2, q3⟩ := hb
 simp only [HG, Hi, Bool.cond_decide, hj]
 by_cases h4 : x.Op = 4
 · have := hs (by omega)
   simp only [h4, Fx, MK, Kf]
   rw [My (by omega) this, My (by omega) this]; simp
 · by_cases h5 : x.Op = 5
   · have := hs (by omega)
     simp only [h5, Fx, MK, Kf]
     rw [My (by omega) this, My (by omega) this]; simp
   · by_cases h6 : x.Op = 6
     · have := hs (by omega)
       simp only [h6, Fx, MK, Kf]
       rw [My (ks := s.1) (by omega) this]; simp
     · by_cases h3 : x.Op = 3
       · have := hs (by omega)
         simp only [h3, Fx, MK, Kf]
         rw [My (ks := s.2.1) (by omega) this]; simp
       · by_cases h8 : x.Op = 8
         · have := hs (by omega)
           simp only [h8, Fx, MK, Kf]
           rw [My (ks := s.2.2) (by omega) this]; simp
         · have e0 : Fx 0 x.Op = false := by simp [Fx]; omega
           have e1 : Fx 1 x.Op = false := by simp [Fx]; omega
           have e2 : Fx 2 x.Op = false := by simp [Fx]; omega
           simp [h4, h5, h6, h3, h8, Kf, e0, e1, e2, MK]
theorem Av4 {x : TS} (h : LimS x) : okS x = true → ∃ M, ∀ n, M ≤ n → ∀ s : L3, bd3 s (nS x) → Bj n s.1 s.2.1 s.2.2 x = some (Kf s fun w => uS w x) := by
 induction h with
 | mk x l0 l1 l2 l3 he kb kc ihb ihc =>
   intro hok
   have hok' := hok
   rw [V8] at hok'
   simp only [Bool.and_eq_true, List.all_eq_true] at hok'
   obtain ⟨M0, hM0⟩ := Dr.bound_list (l := x.Exprs) (P := fun a n => ∀ p0 p1 p2 : List ByteArray, p0.length + nE a ≤ 1000000 → BS n p0 p1 p2 a = some (p0 ++ rE a)) (fun a ha => At2 (he a ha) (hok'.2.1 a ha))
   obtain ⟨M1, hM1⟩ := Dr.bound_list (l := x.Body ++ x.Else) (P := fun a n => ∀ s : L3, bd3 s (nS a) → Bj n s.1 s.2.1 s.2.2 a = some (Kf s fun w => uS w a)) (fun a ha => by
     rcases List.mem_append.1 ha with ha | ha
     · exact ihb a ha (hok'.2.2.1 a ha)
     · exact ihc a ha (hok'.2.2.2 a ha))
   refine ⟨M0 + M1 + 102, fun n hn s hb => ?_⟩
   obtain ⟨m, rfl⟩ : ∃ m, n = m + 1 := ⟨n - 1, by omega⟩
   rw [Ai9] at hb
   have hlim : ∀ a, a ∈ x.Body ++ x.Else → LimS a := fun a ha => by
     rcases List.mem_append.1 ha with ha | ha
     · exact kb a ha
     · exact kc a ha
   have hlen : (x.Body ++ x.Else).length ≤ 20 := by rw [List.length_append]; omega
   have hj1 : ∀ q : L3, bd3 q (Bz nS x.Body + Bz nS x.Else) → EV x (Bj m) m q.2.1 q.2.2 q.1 = some (Kf q fun w => (x.Body ++ x.Else).flatMap (uS w)) := by
     intro q hq
     have hcl : Yv 144 x.Body = some x.Body := by unfold Yv; rw [if_pos (by omega)]
     unfold EV
     rw [hcl, Option.bind_some, G6 (by omega) (by omega), Option.bind_some]
     have := B0 (l := x.Body ++ x.Else) (F := fun k (s : L3) v => C7 (Bj m) (x.Body ++ x.Else) k s.1 s.2.1 s.2.2 v) (g := fun (s : L3) _ a => match Bj m s.1 s.2.1 s.2.2 a with | some s' => .inr s' | none => .inl none) (fin := fun s => some s)
       (fun k i a s ha => by
         have hlt := BC ha
         show C7 _ _ (k + 1) s.1 s.2.1 s.2.2 (i : Int) = _
         rw [C7, Ie, Bk, ha]
         have h1 : (i : Int) < ((x.Body ++ x.Else).length : Int) := by omega
         simp only [h1, decide_true, cond_true, Option.bind_some]
         cases Bj m s.1 s.2.1 s.2.2 a with
         | none => rfl
         | some s' => simp only [Option.bind_some]; rw [Bi (by omega)])
       (fun k s => by
         show C7 _ _ (k + 1) s.1 s.2.1 s.2.2 _ = _
         rw [C7, Ie]; simp) (m := m) (by omega) q
     rw [this]
     exact V9 (f := uS) (step := fun s a => Bj m s.1 s.2.1 s.2.2 a) (fun s => some s) (N := nS) (x.Body ++ x.Else) 0 q (fun w a ha => Ac2 w (hlim a ha)) (by rw [ZH]; exact hq) (fun a ha s hs => hM1 a ha m (by omega) s hs)
   have hj0 : ∀ q : L3, bd3 q (Bz nE x.Exprs + (Bz nS x.Body + Bz nS x.Else)) → d_Suses_stmt_j0 x (Bj m) m q.1 q.2.1 q.2.2 = some (Kf q fun w => (if w = 0 then x.Exprs.flatMap rE else []) ++ (x.Body ++ x.Else).flatMap (uS w)) := by
     intro q hq
     unfold d_Suses_stmt_j0
     have := B0 (l := x.Exprs) (F := fun k s v => C5 x (Bj m) m q.2.1 q.2.2 k s v) (g := fun s _ a => match BS m s q.2.1 q.2.2 a with | some s' => .inr s' | none => .inl none) (fin := fun s => EV x (Bj m) m q.2.1 q.2.2 s)
       (fun k i a s ha => by
         have hlt := BC ha
         show C5 _ _ _ _ _ (k + 1) s (i : Int) = _
         rw [C5, H1, Bk, ha]
         have h1 : (i : Int) < (x.Exprs.length : Int) := by omega
         simp only [h1, decide_true, cond_true, Option.bind_some]
         cases BS m s q.2.1 q.2.2 a with
         | none => rfl
         | some s' => simp only [Option.bind_some]; rw [Bi (by omega)])
       (fun k s => by
         show C5 _ _ _ _ _ (k + 1) s _ = _
         rw [C5, H1]; simp) (m := m) (by omega) q.1
     obtain ⟨b1, b2, b3⟩ := hq
     have hfl := Jm (l := x.Exprs) (f := rE) (N := nE) fun a ha => S0 (he a ha)
     rw [this]
     refine (Z2 (f := rE) (step := fun s a => BS m s q.2.1 q.2.2 a) (fun s => EV x (Bj m) m q.2.1 q.2.2 s) (N := nE) x.Exprs 0 q.1 (fun a ha => S0 (he a ha)) (by omega) (fun a ha s hs => hM0 a ha m (by omega) s _ _ hs)).trans ?_
     rw [hj1 (q.1 ++ x.Exprs.flatMap rE, q.2.1, q.2.2) (by refine ⟨?_, ?_, ?_⟩ <;> simp only [List.length_append] <;> omega)]
     simp [Kf]
   rw [Bj]
   have e1 : ∀ w, (MK (Fx w x.Op) x.Src).length ≤ 1 := fun w => by unfold MK; split <;> simp
   have hb' : bd3 s (1 + (Bz nE x.Exprs + (Bz nS x.Body + Bz nS x.Else))) := AC6 hb (by omega)
   rw [AX5 hok (AC6 hb' (by omega)) (k := fun v => d_Suses_stmt_j0 x (Bj m) m v.1 v.2.1 v.2.2) (fun v => rfl)]
   rw [hj0 _ (AF4 hb' e1), Ax2]
   congr 1
   simp only [AO8, List.flatMap_append]
def uP (p : TP) (w : Int) : List ByteArray := p.Body.flatMap (uS w)
theorem Ap1 {p : TP} (hp : p.Params.length ≤ 12) (hl : p.Body.length ≤ 100) (h : ∀ x, x ∈ p.Body → LimS x) (hd : BV dS p.Body ≤ 900) : Ev (fun n => Kt n p) (Kf ([], [], []) fun w => if Ho p = true then uP p w else []) := by
 obtain ⟨N0, h0⟩ := As7 hp hl h hd
 cases hr : Ho p
 · refine ⟨N0, fun n hn => ?_⟩
   have h0 := h0 n hn
   simp only [hr] at h0
   show Kt n p = _
   rw [Kt, h0]; simp [Kf]
 · have hok : ∀ a, a ∈ p.Body → okS a = true := by
     simp only [Ho, Bool.and_eq_true, List.all_eq_true] at hr; exact hr.2.2
   have hsz : Bz nS p.Body ≤ 300 := by
     simp only [Ho, Bool.and_eq_true, decide_eq_true_eq] at hr; exact hr.2.1.1
   obtain ⟨M1, hM1⟩ := Dr.bound_list (l := p.Body) (P := fun a n => ∀ s : L3, bd3 s (nS a) → Bj n s.1 s.2.1 s.2.2 a = some (Kf s fun w => uS w a)) (fun a ha => Av4 (h a ha) (hok a ha))
   refine ⟨N0 + M1 + 102, fun n hn => ?_⟩
   have h0 := h0 n (by omega)
   simp only [hr] at h0
   show Kt n p = _
   rw [Kt, h0]
   simp only [Option.bind_some, cond_true, if_true]
   have := B0 (l := p.Body) (F := fun k (s : L3) v => Gh p n k s.1 s.2.1 s.2.2 v) (g := fun (s : L3) _ a => match Bj n s.1 s.2.1 s.2.2 a with | some s' => .inr s' | none => .inl none) (fin := fun s => some s)
     (fun k i a s ha => by
       have hlt := BC ha
       show Gh _ _ (k + 1) s.1 s.2.1 s.2.2 (i : Int) = _
       rw [Gh, MB, Bk, ha]
       have h1 : (i : Int) < (p.Body.length : Int) := by omega
       simp only [h1, decide_true, cond_true, Option.bind_some]
       cases Bj n s.1 s.2.1 s.2.2 a with
       | none => rfl
       | some s' => simp only [Option.bind_some]; rw [Bi (by omega)])
     (fun k s => by
       show Gh _ _ (k + 1) s.1 s.2.1 s.2.2 _ = _
       rw [Gh, MB]; simp) (m := n) (by omega) ([], [], [])
   simp only at this
   rw [this]
   exact V9 (f := uS) (step := fun s a => Bj n s.1 s.2.1 s.2.2 a) (fun s => some s) (N := nS) p.Body 0 ([], [], []) (fun w a ha => Ac2 w (h a ha)) (by simp [bd3]; omega) (fun a ha s hs => hM1 a ha n (by omega) s hs)
def Hb (p : TP) (w : Int) : List ByteArray := Qz (if Ho p = true then uP p w else [])
theorem MV {p : TP} (h : ∀ x, x ∈ p.Body → LimS x) (w : Int) : (if Ho p = true then uP p w else []).length ≤ 300 := by
 cases hr : Ho p
 · simp
 · have hsz : Bz nS p.Body ≤ 300 := by
     simp only [Ho, Bool.and_eq_true, decide_eq_true_eq] at hr; exact hr.2.1.1
   have := Jm (l := p.Body) (f := uS w) (N := nS) fun a ha => Ac2 w (h a ha)
   simp only [if_true, uP]; omega
theorem Pm {l : List ByteArray} (h : l.length ≤ 300) : Kg l = some (Qz l) := by unfold Kg; rw [if_pos (by omega)]
theorem AR1 {p : TP} (hp : p.Params.length ≤ 12) (hl : p.Body.length ≤ 100) (h : ∀ x, x ∈ p.Body → LimS x) (hd : BV dS p.Body ≤ 900) : Ev (fun n => KE n p) (Hb p 0) := by
 obtain ⟨N, g⟩ := Ap1 hp hl h hd
 refine ⟨N, fun n hn => ?_⟩
 have g := g n hn
 simp only at g
 show KE n p = _
 rw [KE, g, Option.bind_some]
 simp only [Kf, List.nil_append]
 rw [Pm (MV h 0)]; rfl
theorem AK3 {p : TP} (hp : p.Params.length ≤ 12) (hl : p.Body.length ≤ 100) (h : ∀ x, x ∈ p.Body → LimS x) (hd : BV dS p.Body ≤ 900) : Ev (fun n => I4 n p) (Hb p 1) := by
 obtain ⟨N, g⟩ := Ap1 hp hl h hd
 refine ⟨N, fun n hn => ?_⟩
 have g := g n hn
 simp only at g
 show I4 n p = _
 rw [I4, g, Option.bind_some]
 simp only [Kf, List.nil_append]
 rw [Pm (MV h 1)]; rfl
theorem AM4 {p : TP} (hp : p.Params.length ≤ 12) (hl : p.Body.length ≤ 100) (h : ∀ x, x ∈ p.Body → LimS x) (hd : BV dS p.Body ≤ 900) : Ev (fun n => LJ n p) (Hb p 2) := by
 obtain ⟨N, g⟩ := Ap1 hp hl h hd
 refine ⟨N, fun n hn => ?_⟩
 have g := g n hn
 simp only at g
 show LJ n p = _
 rw [LJ, g, Option.bind_some]
 simp only [Kf, List.nil_append]
 rw [Pm (MV h 2)]; rfl
end Go.Ax
set_option linter.unusedVariables false
set_option linter.unusedSimpArgs false
namespace Go.Ax
theorem Ue (x : ByteArray) : ∀ l : List ByteArray, (Pl x l).length ≤ l.length + 1
 | [] => by simp [Pl]
 | y :: l => by
   have := Ue x l
   rw [Pl]
   split
   · simp
   · split <;> simp <;> omega
def Dl (s : List ByteArray) (ns : List ByteArray) : List ByteArray := ns.foldl (fun a x => Pl x a) s
theorem SQ (s a b : List ByteArray) : Dl s (a ++ b) = Dl (Dl s a) b := by simp [Dl]
theorem Lw : ∀ (ns s : List ByteArray), (Dl s ns).length ≤ s.length + ns.length
 | [], s => by simp [Dl]
 | x :: r, s => by
   have h1 := Lw r (Pl x s)
   have h2 := Ue x s
   show (Dl (Pl x s) r).length ≤ _
   simp only [List.length_cons]; omega
theorem Zb {x : ByteArray} : ∀ {ns s : List ByteArray}, x ∈ Dl s ns ↔ x ∈ s ∨ x ∈ ns
 | [], s => by simp [Dl]
 | y :: r, s => by
   show x ∈ Dl (Pl y s) r ↔ _
   rw [Zb, VJ, List.mem_cons]
   constructor
   · rintro ((h | h) | h)
     · exact .inr (.inl h)
     · exact .inl h
     · exact .inr (.inr h)
   · rintro (h | h | h)
     · exact .inl (.inr h)
     · exact .inl (.inl h)
     · exact .inr h
theorem So : ∀ {ns s : List ByteArray}, HW s → HW (Dl s ns)
 | [], s, h => h
 | y :: r, s, h => So (ns := r) (Rs h)
theorem W1 (l : List ByteArray) : Dl [] l = Qz l :=
 rising_ext (So (by simp [HW])) (Ph l) fun s => by rw [Zb, Wg]; simp
theorem Ar6 {x : ByteArray} (l : List ByteArray) : ∀ (r pre : List ByteArray) (i : Nat), l = pre ++ r → pre.length = i →
   runL (ρ := List ByteArray) (fun (_ : Unit) i y => if y.data.toList < x.data.toList then .inr () else .inl (some (if y = x then l else l.take i ++ x :: l.drop i))) (fun _ => some (l ++ [x])) r i () = some (pre ++ Pl x r)
 | [], pre, i, h, hi => by simp at h; simp [runL, Pl, h]
 | y :: r, pre, i, h, hi => by
   rw [runL, Pl]
   by_cases h1 : y.data.toList < x.data.toList
   · have h2 : ¬ x.data.toList < y.data.toList := List.lt_asymm h1
     have h3 : x ≠ y := fun e => by subst e; exact List.lt_irrefl _ h1
     rw [if_pos h1, if_neg h2, if_neg h3]
     simp only
     rw [Ar6 l r (pre ++ [y]) (i + 1) (by simp [h]) (by simp [hi])]
     simp
   · rw [if_neg h1]
     simp only
     by_cases h2 : y = x
     · subst h2
       rw [if_pos rfl, if_neg h1, if_pos rfl, h]
     · have h3 : x.data.toList < y.data.toList := by
         rcases Decidable.em (x.data.toList < y.data.toList) with h3 | h3
         · exact h3
         · exact absurd (Wk (List.le_antisymm (List.not_lt.1 h3) (List.not_lt.1 h1))) h2
       rw [if_neg h2, if_pos h3, h, List.take_left' hi, List.drop_left' hi]
theorem AO7 {l : List ByteArray} {x : ByteArray} (hl : l.length ≤ 900) {n : Nat} (hn : 901 < n) : Wm n l x = some (Pl x l) := by
 have hj1 : ∀ i : Nat, i ≤ l.length → Lm l x (i : Int) = some (l.take i ++ x :: l.drop i) := by
   intro i hi
   have s1 : Ar9 l 0 (i : Int) = some (l.take i) := by
     unfold Ar9; rw [if_pos (by omega)]; simp
   have s2 : Ar9 l (i : Int) (l.length : Int) = some (l.drop i) := by
     unfold Ar9; rw [if_pos (by omega)]; simp
   have t1 : (l.take i).length ≤ 900 := by simp; omega
   have t2 : (l.drop i).length ≤ 900 := by simp; omega
   unfold Lm
   rw [s1, Option.bind_some, G6 (by simp; omega) (by omega), Option.bind_some, G6 (by simp; omega) (by omega), Option.bind_some, s2, Option.bind_some, G6 (by simp; omega) (by omega)]
   simp
 unfold Wm
 have := B0 (l := l) (F := fun k (_ : Unit) v => Hk l x k v) (g := fun (_ : Unit) i y => if y.data.toList < x.data.toList then .inr () else .inl (some (if y = x then l else l.take i ++ x :: l.drop i))) (fin := fun _ => some (l ++ [x]))
   (fun k i y s hy => by
     have hlt := BC hy
     show Hk l x (k + 1) (i : Int) = _
     rw [Hk, O4, Bk, hy]
     have h1 : (i : Int) < (l.length : Int) := by omega
     simp only [h1, decide_true, cond_true, Option.bind_some, AW3, Bool.cond_decide]
     by_cases h2 : y.data.toList < x.data.toList
     · simp only [h2, if_true]; rw [Bi (by omega)]
     · simp only [h2, if_false, Lr, h1, decide_true, cond_true, Bk, hy, Option.bind_some, Bool.cond_decide]
       by_cases h3 : y = x
       · simp [h3]
       · simp only [h3, if_false]; exact hj1 i (by omega))
   (fun k s => by
     show Hk l x (k + 1) _ = _
     rw [Hk, O4]
     simp only [Int.lt_irrefl, decide_false, cond_false, Lr]
     rw [hj1 l.length (by omega)]; simp) (m := n) (by omega) ()
 rw [this]
 exact (Ar6 l l [] 0 rfl rfl).trans (by simp)
theorem Ar5 {α ρ : Type} {l : List α} {F : Nat → List ByteArray → Int → Option ρ} {f : α → List ByteArray} {N : α → Nat} {fin : List ByteArray → Option ρ} (hf : ∀ x, x ∈ l → (f x).length ≤ N x)
   (hstep : ∀ (k i : Nat) (x : α) (s : List ByteArray), l[i]? = some x → s.length + N x ≤ 900 → F (k + 1) s (i : Int) = F k (Dl s (f x)) ((i + 1 : Nat) : Int))
   (hend : ∀ (k : Nat) (s : List ByteArray), F (k + 1) s (l.length : Int) = fin s) : ∀ (k m i : Nat) (s : List ByteArray), i + k = l.length → k < m → s.length + Bz N (l.drop i) ≤ 900 → F m s (i : Int) = fin (Dl s ((l.drop i).flatMap f))
 | 0, m, i, s, hi, hm, _ => by
   obtain ⟨m, rfl⟩ : ∃ q, m = q + 1 := ⟨m - 1, by omega⟩
   have : i = l.length := by omega
   subst this
   rw [hend]; simp [Dl]
 | k + 1, m, i, s, hi, hm, hb => by
   obtain ⟨m, rfl⟩ : ∃ q, m = q + 1 := ⟨m - 1, by omega⟩
   have hlt : i < l.length := by omega
   have hd : l.drop i = l[i] :: l.drop (i + 1) := List.drop_eq_getElem_cons hlt
   rw [hd] at hb ⊢
   simp only [Bz] at hb
   have h1 := hf l[i] (List.getElem_mem hlt)
   have h2 := Lw (f l[i]) s
   rw [hstep m i l[i] s (List.getElem?_eq_getElem hlt) (by omega), Ar5 hf hstep hend k m (i + 1) _ (by omega) (by omega) (by omega), List.flatMap_cons, SQ]
theorem loop_put0 {α ρ : Type} {l : List α} {F : Nat → List ByteArray → Int → Option ρ} {f : α → List ByteArray} {N : α → Nat} {fin : List ByteArray → Option ρ} (hf : ∀ x, x ∈ l → (f x).length ≤ N x)
   (hstep : ∀ (k i : Nat) (x : α) (s : List ByteArray), l[i]? = some x → s.length + N x ≤ 900 → F (k + 1) s (i : Int) = F k (Dl s (f x)) ((i + 1 : Nat) : Int))
   (hend : ∀ (k : Nat) (s : List ByteArray), F (k + 1) s (l.length : Int) = fin s) {m : Nat} {s : List ByteArray} (hm : l.length < m) (hb : s.length + Bz N l ≤ 900) : F m s 0 = fin (Dl s (l.flatMap f)) := by
 have := Ar5 hf hstep hend l.length m 0 s (by omega) hm (by simpa using hb)
 simpa using this
theorem AP7 {e : TE} (h : okE e = true) : JR e.Op = decide ((21 : Int) ≤ e.Op) := by
 rw [Wr, Am0] at h
 simp only [Bool.and_eq_true, decide_eq_true_eq] at h
 have hf := h.1.1
 unfold FE at hf
 unfold JR
 rw [decide_eq_decide]
 constructor
 · intro h; omega
 · intro h
   refine ⟨h, ?_⟩
   have : ¬ (1 ≤ e.Op ∧ e.Op ≤ 5) := by omega
   rw [if_neg this, if_neg (by omega : ¬ (6 ≤ e.Op ∧ e.Op ≤ 18))] at hf
   split at hf
   · omega
   · split at hf <;> omega
theorem AA0 {e : TE} (h : LimE e) : okE e = true → ∃ M, ∀ n, M ≤ n → ∀ p : List ByteArray, p.length + nE e ≤ 900 → DB n p e = some (Dl p (rE e)) := by
 induction h with
 | mk e hl hk ih =>
   intro hok
   have hall : ∀ a, a ∈ e.Args → okE a = true := by rw [Wr] at hok; simp only [Bool.and_eq_true, List.all_eq_true] at hok; exact hok.2
   obtain ⟨M, hM⟩ := Dr.bound_list (l := e.Args) (P := fun a n => ∀ p : List ByteArray, p.length + nE a ≤ 900 → DB n p a = some (Dl p (rE a))) (fun a ha => ih a ha (hall a ha))
   refine ⟨M + 1002, fun n hn p hb => ?_⟩
   obtain ⟨m, rfl⟩ : ∃ m, n = m + 1 := ⟨n - 1, by omega⟩
   rw [Al5] at hb
   have hloop : ∀ q : List ByteArray, q.length + Bz nE e.Args ≤ 900 → d_Rsources_j0 e (DB m) m q = some (Dl q (e.Args.flatMap rE)) := by
     intro q hq
     unfold d_Rsources_j0
     exact loop_put0 (l := e.Args) (F := fun k s v => Dx e (DB m) k s v) (f := rE) (N := nE) (fin := fun s => some s) (fun a ha => S0 (hk a ha))
       (fun k i a s ha hs => by
         have hlt := BC ha
         show Dx e _ (k + 1) s (i : Int) = _
         rw [Dx, Jj, Bk, ha]
         have h1 : (i : Int) < (e.Args.length : Int) := by omega
         simp only [h1, decide_true, cond_true, Option.bind_some]
         rw [hM a (List.mem_of_getElem? ha) m (by omega) s hs]
         simp only [Option.bind_some]; rw [Bi (by omega)])
       (fun k s => by
         show Dx e _ (k + 1) s _ = _
         rw [Dx, Jj]; simp) (m := m) (by omega) hq
   rw [DB, Lb, ← AP7 hok, AR9]
   cases hr : JR e.Op
   · simp only [cond_false, Bool.false_eq_true, if_false, List.nil_append]
     exact hloop p (by omega)
   · have hi := Ue e.Src p
     simp only [cond_true, if_true]
     rw [AO7 (by omega) (by omega), Option.bind_some, hloop _ (by omega)]
     rfl
theorem Wt {l : List TS} (w : Int) (hw : w = 0 ∨ w = 1 ∨ w = 2) (hl : l.length ≤ 100) (hlim : ∀ x, x ∈ l → LimS x) (hok : ∀ x, x ∈ l → okS x = true)
   (h : ∀ x, x ∈ l → ∃ M, ∀ n, M ≤ n → ∀ p : List ByteArray, (p.length + Bz nS x.Body ≤ 900 → CH n p x.Body w = some (Dl p (x.Body.flatMap (uS w)))) ∧ (p.length + Bz nS x.Else ≤ 900 → CH n p x.Else w = some (Dl p (x.Else.flatMap (uS w))))) :
   ∃ M, ∀ n, M ≤ n → ∀ p : List ByteArray, p.length + Bz nS l ≤ 900 → CH n p l w = some (Dl p (l.flatMap (uS w))) := by
 obtain ⟨M, hM⟩ := Dr.bound_list (l := l) (P := fun x n => ∀ p : List ByteArray, (p.length + Bz nS x.Body ≤ 900 → CH n p x.Body w = some (Dl p (x.Body.flatMap (uS w)))) ∧ (p.length + Bz nS x.Else ≤ 900 → CH n p x.Else w = some (Dl p (x.Else.flatMap (uS w))))) h
 obtain ⟨M0, hM0⟩ := Dr.bound_list (l := l) (P := fun x n => ∀ a, a ∈ x.Exprs → ∀ p : List ByteArray, p.length + nE a ≤ 900 → DB n p a = some (Dl p (rE a))) (fun x hx => by
   have hs := hok x hx
   rw [V8] at hs
   simp only [Bool.and_eq_true, List.all_eq_true] at hs
   obtain ⟨_, _, _, _, _, he, _, _⟩ := hlim x hx
   obtain ⟨M, hM⟩ := Dr.bound_list (l := x.Exprs) (P := fun a n => ∀ p : List ByteArray, p.length + nE a ≤ 900 → DB n p a = some (Dl p (rE a))) (fun a ha => AA0 (he a ha) (hs.2.1 a ha))
   exact ⟨M, fun n hn a ha => hM a ha n hn⟩)
 refine ⟨M + M0 + 1002, fun n hn p hb => ?_⟩
 obtain ⟨m, rfl⟩ : ∃ m, n = m + 1 := ⟨n - 1, by omega⟩
 rw [CH, RM]
 refine loop_put0 (l := l) (F := fun k s v => Fy l w (CH m) m k s v) (f := uS w) (N := nS) (fin := fun s => some s) (fun a ha => Ac2 w (hlim a ha))
   (fun k i x s hx hs => ?_)
   (fun k s => by
     show Fy l w _ m (k + 1) s _ = _
     rw [Fy, Nt]; simp) (m := m) (by omega) hb
 have hlt := BC hx
 have hm := List.mem_of_getElem? hx
 have hs1 := hM x hm m (by omega)
 have hs0 := hM0 x hm m (by omega)
 obtain ⟨_, _, hel, _, _, he, hbl, hcl⟩ := hlim x hm
 rw [Ai9] at hs
 show Fy l w _ m (k + 1) s (i : Int) = _
 rw [Fy, Nt, Bk, hx]
 have h1 : (i : Int) < (l.length : Int) := by omega
 simp only [h1, decide_true, cond_true, Option.bind_some]
 generalize hrec : Fy l w (CH m) m k = rec
 have hj1 : ∀ q : List ByteArray, q.length + (Bz nS x.Body + Bz nS x.Else) ≤ 900 → Ki w (CH m) (i : Int) rec x q = rec (Dl q (x.Body.flatMap (uS w) ++ x.Else.flatMap (uS w))) ((i + 1 : Nat) : Int) := by
   intro q hq
   have hq2 := Lw (x.Body.flatMap (uS w)) q
   have hq3 := Jm (l := x.Body) (f := uS w) (N := nS) fun a ha => Ac2 w (hbl a ha)
   unfold Ki
   rw [(hs1 q).1 (by omega), Option.bind_some, (hs1 _).2 (by omega), Option.bind_some, SQ, Bi (by omega)]
 have hj0 : ∀ q : List ByteArray, q.length + (Bz nE x.Exprs + (Bz nS x.Body + Bz nS x.Else)) ≤ 900 → d_RUses_j0 w (CH m) m (i : Int) rec x q = rec (Dl q ((if w = 0 then x.Exprs.flatMap rE else []) ++ (x.Body.flatMap (uS w) ++ x.Else.flatMap (uS w)))) ((i + 1 : Nat) : Int) := by
   intro q hq
   unfold d_RUses_j0
   by_cases h0 : w = 0
   · have hq2 := Lw (x.Exprs.flatMap rE) q
     have hq3 := Jm (l := x.Exprs) (f := rE) (N := nE) fun a ha => S0 (he a ha)
     rw [loop_put0 (l := x.Exprs) (F := fun k s v => Fw w (CH m) m (i : Int) rec x k s v) (f := rE) (N := nE) (fin := fun s => Ki w (CH m) (i : Int) rec x s) (fun a ha => S0 (he a ha))
       (fun k i' a s ha hs => by
         have hlt := BC ha
         show Fw w _ m _ rec x (k + 1) s (i' : Int) = _
         rw [Fw, KC]
         have h1 : (i' : Int) < (x.Exprs.length : Int) := by omega
         simp only [h1, h0, decide_true, cond_true, IQ, Bk, ha, Option.bind_some]
         rw [hs0 a (List.mem_of_getElem? ha) s hs]
         simp only [Option.bind_some]; rw [Bi (by omega)])
       (fun k s => by
         show Fw w _ m _ rec x (k + 1) s _ = _
         rw [Fw, KC]; simp [IQ]) (m := m) (by omega) (by omega)]
     rw [hj1 _ (by omega), if_pos h0, ← SQ]
   · obtain ⟨m', rfl⟩ : ∃ m', m = m' + 1 := ⟨m - 1, by omega⟩
     rw [Fw, KC, if_neg h0]
     simp only [h0, decide_false, IQ, cond_false, List.nil_append]
     rw [hj1 q (by omega)]
     simp
 have hj3 : ER w (CH m) m s (i : Int) rec x (Fx w x.Op) = rec (Dl s (uS w x)) ((i + 1 : Nat) : Int) := by
   unfold ER
   rw [AO8]
   cases Fx w x.Op
   · simp only [cond_false, MK, Bool.false_eq_true, if_false, List.nil_append]; exact hj0 s (by omega)
   · have hi := Ue x.Src s
     simp only [cond_true, MK, if_true]
     rw [AO7 (by omega) (by omega), Option.bind_some, hj0 _ (by omega)]
     rfl
 rw [← hj3]
 have c02 : (bif decide (w = 2) then ER w (CH m) m s (i : Int) rec x (decide (x.Op = 8)) else ER w (CH m) m s (i : Int) rec x false) = ER w (CH m) m s (i : Int) rec x (decide (w = 2 ∧ x.Op = 8)) := by
   by_cases h : w = 2 <;> simp [h]
 simp only [LB, Mh, IM, c02]
 have e : ∀ b c : Bool, b = c → ER w (CH m) m s (i : Int) rec x b = ER w (CH m) m s (i : Int) rec x c := fun b c h => by rw [h]
 by_cases w0 : w = 0
 · subst w0
   by_cases a : (4 : Int) ≤ x.Op
   · by_cases b : x.Op ≤ 6
     · simp [a, b]; exact e _ _ (by simp [Fx, a, b])
     · simp [a, b]; exact e _ _ (by simp [Fx, a, b])
   · simp [a]; exact e _ _ (by simp [Fx, a])
 · by_cases w1 : w = 1
   · subst w1
     by_cases a : (3 : Int) ≤ x.Op
     · by_cases b : x.Op ≤ 5
       · simp [a, b]; exact e _ _ (by simp [Fx, a, b])
       · simp [a, b]; exact e _ _ (by simp [Fx, a, b])
     · simp [a]; exact e _ _ (by simp [Fx, a])
   · simp [w0, w1]; exact e _ _ (by simp [Fx, w0, w1])
theorem Av5 {x : TS} (w : Int) (hw : w = 0 ∨ w = 1 ∨ w = 2) (h : LimS x) : okS x = true → ∃ M, ∀ n, M ≤ n → ∀ p : List ByteArray, (p.length + Bz nS x.Body ≤ 900 → CH n p x.Body w = some (Dl p (x.Body.flatMap (uS w)))) ∧ (p.length + Bz nS x.Else ≤ 900 → CH n p x.Else w = some (Dl p (x.Else.flatMap (uS w)))) := by
 induction h with
 | mk x l0 l1 l2 l3 he kb kc ihb ihc =>
   intro hok
   rw [V8] at hok
   simp only [Bool.and_eq_true, List.all_eq_true] at hok
   obtain ⟨M1, h1⟩ := Wt w hw (l := x.Body) (by omega) kb hok.2.2.1 (fun a ha => ihb a ha (hok.2.2.1 a ha))
   obtain ⟨M2, h2⟩ := Wt w hw (l := x.Else) (by omega) kc hok.2.2.2 (fun a ha => ihc a ha (hok.2.2.2 a ha))
   exact ⟨M1 + M2, fun n hn p => ⟨h1 n (by omega) p, h2 n (by omega) p⟩⟩
theorem SW {p : TP} (w : Int) (hw : w = 0 ∨ w = 1 ∨ w = 2) (hl : p.Body.length ≤ 100) (h : ∀ x, x ∈ p.Body → LimS x) (hr : Ho p = true) : Ev (fun n => CH n [] p.Body w) (Hb p w) := by
 have hok : ∀ a, a ∈ p.Body → okS a = true := by
   simp only [Ho, Bool.and_eq_true, List.all_eq_true] at hr; exact hr.2.2
 have hsz : Bz nS p.Body ≤ 300 := by
   simp only [Ho, Bool.and_eq_true, decide_eq_true_eq] at hr; exact hr.2.1.1
 obtain ⟨M, g⟩ := Wt w hw hl h hok (fun x hx => Av5 w hw (h x hx) (hok x hx))
 refine ⟨M, fun n hn => ?_⟩
 show CH n [] p.Body w = _
 rw [g n hn [] (by simp; omega), W1, Hb, if_pos hr]; rfl
theorem Aq8 (a b : List ByteArray) (h : a.length ≤ 100000) : Ev (fun n => H9 n a b) (decide (a = b)) := by
 refine ⟨a.length + 2, fun n hn => ?_⟩
 show H9 n a b = _
 unfold H9
 by_cases hlen : a.length = b.length
 · have e1 : ((a.length : Int) = (b.length : Int)) := by omega
   simp only [e1, decide_true, Bool.not_true, cond_false]
   have := B0 (l := a) (F := fun k (_ : Unit) v => Ge a b k v) (g := fun (_ : Unit) i y => if b[i]? = some y then .inr () else .inl (some false)) (fin := fun _ => some true)
     (fun k i y s hy => by
       have hlt := BC hy
       have hb : b[i]? = some b[i] := List.getElem?_eq_getElem (by omega)
       show Ge a b (k + 1) (i : Int) = _
       rw [Ge, MY, Bk, Bk, hy, hb]
       have h1 : (i : Int) < (a.length : Int) := by omega
       simp only [h1, decide_true, cond_true, Option.bind_some]
       by_cases h2 : y = b[i]
       · have h2' : b[i] = y := h2.symm
         simp only [h2', decide_true, Bool.not_true, cond_false, if_true]; rw [Bi (by omega)]
       · have h2' : ¬ b[i] = y := fun e => h2 e.symm
         simp [h2, h2'])
     (fun k s => by
       show Ge a b (k + 1) _ = _
       rw [Ge, MY]; simp) (m := n) (by omega) ()
   rw [this]
   have tail : ∀ (r pre : List ByteArray) (i : Nat), a = pre ++ r → pre.length = i → b.take i = pre → runL (ρ := Bool) (fun (_ : Unit) i y => if b[i]? = some y then .inr () else .inl (some false)) (fun _ => some true) r i () = some (decide (a = b)) := by
     intro r
     induction r with
     | nil =>
       intro pre i h1 h2 h3
       rw [runL]
       have : a = b := by
         have e : i = b.length := by rw [← hlen, h1]; simp [h2]
         rw [h1, ← h3, e]; simp
       simp [this]
     | cons y r ih =>
       intro pre i h1 h2 h3
       rw [runL]
       have hi : i < b.length := by rw [← hlen, h1]; simp [h2]
       by_cases hy : b[i]? = some y
       · rw [if_pos hy]
         refine ih (pre ++ [y]) (i + 1) (by simp [h1]) (by simp [h2]) ?_
         rw [List.take_add_one, hy, h3]; rfl
       · rw [if_neg hy]
         have : a ≠ b := fun e => hy (by rw [← e, h1, ← h2]; simp)
         simp [this]
   exact (tail a [] 0 rfl rfl (by simp))
 · have e1 : ¬ ((a.length : Int) = (b.length : Int)) := by omega
   have e2 : a ≠ b := fun e => hlen (by rw [e])
   simp [e1, e2]
end Go.Ax
