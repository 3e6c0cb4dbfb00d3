import Derived.Test.YtojkpenjeglipaaGreatTWD0
import Derived.Test.YtojkpenjeglipaaGreatTWD1
import Derived.Test.YtojkpenjeglipaaGreatTWD2
import Derived.Test.YtojkpenjeglipaaGreatTWD3
import Derived.Test.YtojkpenjeglipaaGreatTWD4
import Derived.Test.YtojkpenjeglipaaGreatTWD5
import Derived.Test.YtojkpenjeglipaaGreatTWD6
import Derived.Test.YtojkpenjeglipaaGreatTWD7
import Derived.Test.YtojkpenjeglipaaGreatTWD8
import Derived.Test.YtojkpenjeglipaaGreatTWD9
import Derived.Test.YtojkpenjeglipaaGreatTWD10
import Derived.Test.YtojkpenjeglipaaGreatTWD11
import Derived.Test.YtojkpenjeglipaaGreatTWD12
import Derived.Test.YtojkpenjeglipaaGreatTWD13
import Derived.Test.YtojkpenjeglipaaGreatTWD14
import Derived.Test.YtojkpenjeglipaaGreatTAxP
set_option linter.unusedVariables false
namespace Go.Ax
attribute [local simp] Bool.cond_decide
abbrev Ub {α : Type} (l : List α) : Prop := l.length ≤ 9223372036854775807
def Qy (s : ByteArray) : Bool := decide (s.size ≠ 0) && (decide (s.size ≤ 16) && ((match DV s with | [] => false | c :: _ => Cf c) && (DV s).all Cl))
theorem AF0 {α : Type} (p : α → Bool) : ∀ (l : List α) (i : Nat) (u : Unit), ID (ρ := Bool) (fun _ _ x => if p x then .inr () else .inl (some false)) (fun _ => some true) l i u = some (l.all p)
 | [], i, u => rfl
 | x :: r, i, u => by
   rw [ID]
   cases h : p x
   · simp [h]
   · simp only [if_true, List.all_cons, h, Bool.true_and]
     exact AF0 p r _ _
theorem BY4 (s : ByteArray) : Ev (fun n => Gz n s) (Qy s) := by
 refine ⟨18, fun n hn => ?_⟩
 unfold Gz FU FQ
 by_cases h0 : s = (⟨#[]⟩ : ByteArray)
 · subst h0; rfl
 have hs : s.size ≠ 0 := fun e => h0 (BS3 (by
   have : s.data.size = 0 := e
   have h2 := Array.eq_empty_of_size_eq_zero this
   simp [h2]))
 by_cases h16 : (16 : Int) < s.size
 · have : ¬ s.size ≤ 16 := by omega
   simp [h0, h16, Qy, this]
 · have hle : s.size ≤ 16 := by omega
   have hl := As2 s
   have e0 : BF1 s 0 = (DV s)[0]? := Be7 s 0
   cases hb : DV s with
   | nil => rw [hb] at hl; simp at hl; omega
   | cons c r =>
     have hloop : BX s n 0 = some ((DV s).all Cl) := by
       have := CT (l := DV s) (F := fun m (_ : Unit) v => BX s m v) (g := fun _ _ x => if Cl x then .inr () else .inl (some false)) (fin := fun _ => some true)
         (fun m i x u hx => by
           have hlt := Cs hx
           show BX s (m + 1) (i : Int) = _
           rw [BX, G2, BC, hx]
           have : (i : Int) < ((DV s).length : Int) := by omega
           simp only [this, decide_true, cond_true, Option.bind_some]
           cases Cl x
           · rfl
           · simp only [Bool.not_true, cond_false, if_true]
             rw [Bk (by omega)])
         (fun m u => by
           show BX s (m + 1) _ = _
           rw [BX, G2]; simp) (m := n) (by omega) ()
       rw [this, AF0]
     rw [hb] at e0 hloop
     simp only [List.getElem?_cons_zero] at e0
     simp only [h0, h16, decide_false, cond_false, e0, Option.bind_some, Qy, hb]
     rw [hloop]
     cases Cf c <;> simp [hs, hle]
end Go.Ax
namespace Go.Ax
theorem Wm {α : Type} (b : α → Bool) : ∀ (l : List α) (i : Nat) (u : Unit), ∃ v : Int, ID (ρ := Int) (fun _ i x => if b x then .inl (some (i : Int)) else .inr ()) (fun _ => some (-1)) l i u = some v ∧ (0 ≤ v ↔ l.any b = true)
 | [], i, u => ⟨-1, rfl, by simp⟩
 | x :: r, i, u => by
   rw [ID]
   cases h : b x
   · simp only [Bool.false_eq_true, if_false, List.any_cons, h, Bool.false_or]
     exact Wm b r _ _
   · exact ⟨i, by simp, by simp [h]⟩
theorem S0 {n : Nat} {l : List ByteArray} {fn1 : ByteArray → Option Bool} {b : ByteArray → Bool} (hn : l.length < n) (hs : Ub l) (hf : ∀ x, x ∈ l → fn1 x = some (b x)) : ∃ v, BW n l fn1 = some v ∧ (0 ≤ v ↔ l.any b = true) := by
 unfold BW
 have := CT (l := l) (F := fun m (_ : Unit) v => AW l fn1 m v) (g := fun _ i x => if b x then .inl (some (i : Int)) else .inr ()) (fin := fun _ => some (-1))
   (fun m i x u hx => by
     have hlt := Cs hx
     show AW l fn1 (m + 1) (i : Int) = _
     rw [AW, Cc, BC, hx]
     have h1 : (i : Int) < (l.length : Int) := by omega
     simp only [h1, decide_true, cond_true, Option.bind_some, hf x (List.mem_of_getElem? hx)]
     cases b x
     · simp only [cond_false, Bool.false_eq_true, if_false]; rw [Bk (by omega)]
     · rfl)
   (fun m u => by
     show AW l fn1 (m + 1) _ = _
     rw [AW, Cc]; simp) (m := n) hn ()
 rw [this]
 exact Wm b l 0 ()
theorem Nr {n : Nat} {l : List ByteArray} {fn1 : ByteArray → Option Bool} {b : ByteArray → Bool} (hn : l.length < n) (hs : Ub l) (hf : ∀ x, x ∈ l → fn1 x = some (b x)) : BN n l fn1 = some (l.any b) := by
 obtain ⟨v, h1, h2⟩ := S0 hn hs hf
 rw [BN, h1]
 simp only [Option.bind_some]
 congr 1
 rw [Bool.eq_iff_iff, decide_eq_true_iff]
 exact h2
theorem AV9 {n : Nat} {l : List ByteArray} (p : ByteArray) (hn : l.length < n) (hs : Ub l) : BJ n l p = some (l.any fun x => decide (p = x)) := by
 unfold BJ Dr
 have := CT (l := l) (F := fun m (_ : Unit) v => A9 l p m v) (g := fun _ i x => if decide (p = x) then .inl (some (i : Int)) else .inr ()) (fin := fun _ => some (-1))
   (fun m i x u hx => by
     have hlt := Cs hx
     show A9 l p (m + 1) (i : Int) = _
     rw [A9, CQ, BC, hx]
     have h1 : (i : Int) < (l.length : Int) := by omega
     simp only [h1, decide_true, cond_true, Option.bind_some]
     cases decide (p = x)
     · simp only [cond_false, Bool.false_eq_true, if_false]; rw [Bk (by omega)]
     · rfl)
   (fun m u => by
     show A9 l p (m + 1) _ = _
     rw [A9, CQ]; simp) (m := n) hn ()
 rw [this]
 obtain ⟨v, h1, h2⟩ := Wm (fun x => decide (p = x)) l 0 ()
 rw [h1]
 simp only [Option.bind_some]
 congr 1
 rw [Bool.eq_iff_iff, decide_eq_true_iff]
 exact h2
def Mk (s : ByteArray) : Bool := Hq.any fun x => decide (s = x)
theorem BF0 (s : ByteArray) : Ev (fun n => GM n s) (Mk s) := ⟨50, fun n hn => by
 show GM n s = _
 rw [GM, AV9 s (Nat.lt_of_lt_of_le (by decide) hn) (by decide)]
 rfl⟩
def B8 (s : ByteArray) : Bool := Qy s && !Mk s
theorem BS4 (l : List ByteArray) (hs : Ub l) : Ev (fun n => GB n l) (l.all Qy) := by
 obtain ⟨N, hN⟩ := Ev.all (l := l) (f := fun n x => Gz n x) (r := Qy) fun x _ => BY4 x
 refine ⟨max N (l.length + 1), fun n hn => ?_⟩
 show GB n l = _
 unfold GB
 have := CT (l := l) (F := fun m (_ : Unit) v => Ck l n m v) (g := fun _ _ x => if Qy x then .inr () else .inl (some false)) (fin := fun _ => some true)
   (fun m i x u hx => by
     have hlt := Cs hx
     show Ck l n (m + 1) (i : Int) = _
     rw [Ck, Hd, BC, hx]
     have h1 : (i : Int) < (l.length : Int) := by omega
     simp only [h1, decide_true, cond_true, Option.bind_some, hN n (by omega) x (List.mem_of_getElem? hx)]
     cases Qy x
     · rfl
     · simp only [Bool.not_true, cond_false, if_true]; rw [Bk (by omega)])
   (fun m u => by
     show Ck l n (m + 1) _ = _
     rw [Ck, Hd]; simp) (m := n) (by omega) ()
 rw [this, AF0]
theorem R3 (l : List ByteArray) (hs : Ub l) : Ev (fun n => Gt n l) (l.all B8) := by
 obtain ⟨N, hN⟩ := BS4 l hs
 obtain ⟨M, hM⟩ := Ev.all (l := l) (f := fun n x => GM n x) (r := Mk) fun x _ => BF0 x
 refine ⟨max (max N M) (l.length + 1), fun n hn => ?_⟩
 show Gt n l = _
 have h1 := hN n (by omega)
 simp only at h1
 rw [Gt, h1, Option.bind_some, Nr (b := Mk) (by omega) hs (fun x hx => hM n (by omega) x hx)]
 simp only [Option.bind_some]
 have e : l.all B8 = (l.all Qy && !l.any Mk) := by
   clear h1 hN hM hn hs
   induction l with
   | nil => rfl
   | cons x r ih => simp only [List.all_cons, List.any_cons, ih, B8]; cases Qy x <;> cases Mk x <;> simp
 rw [e]
 cases l.all Qy <;> rfl
theorem Bi2 (s : ByteArray) : Ev (fun n => J8 n s) (Mk s) := ⟨50, fun n hn => by
 show J8 n s = _
 unfold J8
 have hlen : Hq.length = 43 := by decide
 have := CT (l := Hq) (F := fun m (_ : Unit) v => Dk s m v) (g := fun _ i x => if decide (x = s) then .inl (some true) else .inr ()) (fin := fun _ => some false)
   (fun m i x u hx => by
     have hlt := Cs hx
     show Dk s (m + 1) (i : Int) = _
     rw [Dk, JM]
     change (bif decide ((i : Int) < (Hq.length : Int)) then (Dw Hq (i : Int)).bind _ else _) = _
     rw [BC, hx]
     have h1 : (i : Int) < (Hq.length : Int) := by omega
     simp only [h1, decide_true, cond_true, Option.bind_some]
     cases decide (x = s)
     · simp only [cond_false, Bool.false_eq_true, if_false]; rw [Bk (by omega)]
     · rfl)
   (fun m u => by
     show Dk s (m + 1) _ = _
     rw [Dk, JM]
     change (bif decide ((Hq.length : Int) < (Hq.length : Int)) then _ else _) = _
     simp) (m := n) (by omega) ()
 rw [this]
 have key : ∀ (l : List ByteArray) (i : Nat) (u : Unit), ID (ρ := Bool) (fun _ i x => if decide (x = s) then .inl (some true) else .inr ()) (fun _ => some false) l i u = some (l.any fun x => decide (s = x)) := by
   intro l
   induction l with
   | nil => intro i u; simp [ID]
   | cons x r ih =>
     intro i u
     rw [ID]
     by_cases h : x = s
     · simp [h]
     · have h2 : ¬ s = x := fun e => h e.symm
       simp only [h, decide_false, Bool.false_eq_true, if_false, ih, List.any_cons, h2, Bool.false_or]
 rw [key]; rfl⟩
theorem BB3 (s : ByteArray) : Ev (fun n => DL n s) (Qy s) := by
 refine ⟨18, fun n hn => ?_⟩
 show DL n s = _
 unfold DL DA
 by_cases h0 : s.size = 0
 · simp [h0, Qy]
 · by_cases h16 : (16 : Int) < s.size
   · have : ¬ s.size ≤ 16 := by omega
     have h1 : ¬ (s.size : Int) < 1 := by omega
     simp [h1, h16, Qy, this]
   · have hle : s.size ≤ 16 := by omega
     have h1 : ¬ (s.size : Int) < 1 := by omega
     have hl := As2 s
     simp only [h1, h16, decide_false, cond_false]
     have := CT (l := DV s) (F := fun m (_ : Unit) v => Bx s m v) (g := fun _ i x => if (if i = 0 then Cf x else Cl x) then .inr () else .inl (some false)) (fin := fun _ => some true)
       (fun m i x u hx => by
         have hlt := Cs hx
         show Bx s (m + 1) (i : Int) = _
         rw [Bx, EP, Be7, hx]
         have h1 : (i : Int) < (s.size : Int) := by omega
         simp only [h1, decide_true, cond_true, Option.bind_some]
         have hw := Bk (i := i) (by omega)
         simp only [DH, hw, Cf, Cl]
         by_cases hi : i = 0
         · subst hi
           by_cases h97 : (97 : Int) ≤ x <;> by_cases h122 : x ≤ (122 : Int) <;> simp [h97, h122]
         · have hi' : ¬ (i : Int) = 0 := by omega
           simp only [hi, hi', if_false, decide_false, cond_false]
           by_cases h97 : (97 : Int) ≤ x <;> by_cases h122 : x ≤ (122 : Int) <;> by_cases h48 : (48 : Int) ≤ x <;> by_cases h57 : x ≤ (57 : Int) <;> by_cases h95 : x = (95 : Int) <;> simp [h97, h122, h48, h57, h95])
       (fun m u => by
         show Bx s (m + 1) _ = _
         rw [Bx, EP, hl]; simp) (m := n) (by omega) ()
     rw [this]
     have key : ∀ (l : List Int) (i : Nat) (u : Unit), i ≠ 0 → ID (ρ := Bool) (fun _ i x => if (if i = 0 then Cf x else Cl x) then .inr () else .inl (some false)) (fun _ => some true) l i u = some (l.all Cl) := by
       intro l
       induction l with
       | nil => intro i u _; rfl
       | cons x r ih =>
         intro i u hi
         rw [ID]
         simp only [hi, if_false, List.all_cons]
         cases Cl x
         · simp
         · simp only [if_true, Bool.true_and]; exact ih _ _ (by omega)
     unfold Qy
     cases hb : DV s with
     | nil => rw [hb] at hl; simp at hl; omega
     | cons c r =>
       rw [ID]
       simp only [if_true, List.all_cons]
       have hlp : Cf c = true → Cl c = true := fun h => by simp [Cl, h]
       cases hc : Cf c
       · simp
       · simp only [if_true, hlp hc, Bool.true_and, key r 1 () (by omega)]
         simp [h0, hle]
theorem G7 (s : ByteArray) : Ev (fun n => EE n s) (B8 s) := by
 obtain ⟨N, hN⟩ := BB3 s
 obtain ⟨M, hM⟩ := Bi2 s
 refine ⟨max N M, fun n hn => ?_⟩
 show EE n s = _
 have h1 := hN n (by omega)
 have h2 := hM n (by omega)
 simp only at h1 h2
 rw [EE, h1, h2]
 simp only [Option.bind_some, B8]
 cases Qy s <;> rfl
end Go.Ax
namespace Go.Ax
inductive LimE : TE → Prop
 | mk (e : TE) (h1 : e.Args.length ≤ 10) (h : ∀ a, a ∈ e.Args → LimE a) : LimE e
def FI (op : Int) : Int := if 1 ≤ op ∧ op ≤ 5 then 0 else if 6 ≤ op ∧ op ≤ 18 then 2 else if op = 19 ∨ op = 20 ∨ op = 21 then 1 else if 22 ≤ op ∧ op ≤ 24 then 2 else -1
def Aw1 (op : Int) : Bool := decide (21 ≤ op ∧ op ≤ 24)
theorem BO1 (op : Int) : Am2 op = (FI op, Aw1 op) := by
 simp only [Am2, SK, Tb, Sw, Bool.cond_decide, cond_true, cond_false, FI, Aw1]
 repeat' split
 all_goals first | (exfalso; omega) | (simp; try omega)
def Ay7 (e : TE) : Bool :=
 if e.Op = 1 then decide (0 ≤ e.N) && (decide ((⟨#[]⟩ : ByteArray) = e.S) && (decide ((⟨#[]⟩ : ByteArray) = e.Name) && decide ((⟨#[]⟩ : ByteArray) = e.Src)))
 else if e.Op = 2 then decide (e.S.size ≤ 200) && (decide (0 = e.N) && (decide ((⟨#[]⟩ : ByteArray) = e.Name) && decide ((⟨#[]⟩ : ByteArray) = e.Src)))
 else if e.Op = 3 then decide (0 ≤ e.N ∧ e.N ≤ 1) && (decide ((⟨#[]⟩ : ByteArray) = e.S) && (decide ((⟨#[]⟩ : ByteArray) = e.Name) && decide ((⟨#[]⟩ : ByteArray) = e.Src)))
 else if e.Op = 4 then B8 e.Name && (decide (0 = e.N) && (decide ((⟨#[]⟩ : ByteArray) = e.S) && decide ((⟨#[]⟩ : ByteArray) = e.Src)))
 else if e.Op = 5 then (B8 e.Name && B8 e.S) && (decide (0 = e.N) && decide ((⟨#[]⟩ : ByteArray) = e.Src))
 else if Aw1 e.Op = true then (B8 e.Name && B8 e.Src) && (decide (0 = e.N) && decide ((⟨#[]⟩ : ByteArray) = e.S))
 else decide (0 = e.N) && (decide ((⟨#[]⟩ : ByteArray) = e.S) && (decide ((⟨#[]⟩ : ByteArray) = e.Name) && decide ((⟨#[]⟩ : ByteArray) = e.Src)))
theorem BR2 (e : TE) : Ev (fun n => R6 n e) (Ay7 e) := by
 obtain ⟨N1, h1⟩ := R3 [e.Name] (by simp)
 obtain ⟨N2, h2⟩ := R3 [e.Name, e.S] (by simp)
 obtain ⟨N3, h3⟩ := R3 [e.Name, e.Src] (by simp)
 refine ⟨N1 + N2 + N3, fun n hn => ?_⟩
 have h1 := h1 n (by omega)
 have h2 := h2 n (by omega)
 have h3 := h3 n (by omega)
 simp only [List.all_cons, List.all_nil, Bool.and_true] at h1 h2 h3
 have h3d : (Int.fdiv e.N (2 ^ (min (Int.toNat (1 : Int)) (IntKind.bits .i64))) = (0 : Int)) ↔ (0 ≤ e.N ∧ e.N ≤ 1) := by
   have : (2 : Int) ^ (min (Int.toNat (1 : Int)) (IntKind.bits .i64)) = 2 := rfl
   rw [this, Int.fdiv_eq_ediv_of_nonneg _ (by decide)]; omega
 show R6 n e = _
 unfold R6 Ay7
 simp only [h1, h2, h3, BO1, Option.bind_some, decide_true, h3d, Int.ofNat_le,
   Ly, Li, KS, Lc, KP, KJ, Lp, Lk, K1, K9,
   Jl, JA, Jk, Jm, Jj, Jw, Jy, Jc, Jg, Ju]
 have e200 : (decide ((e.S.size : Int) ≤ 200)) = decide (e.S.size ≤ 200) := by rw [decide_eq_decide]; omega
 rw [e200]
 generalize B8 e.Name = b1
 generalize B8 e.S = b2
 generalize B8 e.Src = b3
 by_cases o1 : e.Op = 1
 · simp only [o1, decide_true, cond_true, if_true]
   cases decide (0 ≤ e.N) <;> cases decide ((⟨#[]⟩ : ByteArray) = e.S) <;> cases decide ((⟨#[]⟩ : ByteArray) = e.Name) <;> cases decide ((⟨#[]⟩ : ByteArray) = e.Src) <;> rfl
 by_cases o2 : e.Op = 2
 · simp only [o1, o2, decide_true, decide_false, cond_true, cond_false, if_true, if_false]
   cases decide (e.S.size ≤ 200) <;> cases decide (0 = e.N) <;> cases decide ((⟨#[]⟩ : ByteArray) = e.Name) <;> cases decide ((⟨#[]⟩ : ByteArray) = e.Src) <;> rfl
 by_cases o3 : e.Op = 3
 · simp only [o1, o2, o3, decide_true, decide_false, cond_true, cond_false, if_true, if_false]
   cases decide (0 ≤ e.N ∧ e.N ≤ 1) <;> cases decide ((⟨#[]⟩ : ByteArray) = e.S) <;> cases decide ((⟨#[]⟩ : ByteArray) = e.Name) <;> cases decide ((⟨#[]⟩ : ByteArray) = e.Src) <;> rfl
 by_cases o4 : e.Op = 4
 · simp only [o1, o2, o3, o4, decide_true, decide_false, cond_true, cond_false, if_true, if_false]
   cases b1 <;> cases decide (0 = e.N) <;> cases decide ((⟨#[]⟩ : ByteArray) = e.S) <;> cases decide ((⟨#[]⟩ : ByteArray) = e.Src) <;> rfl
 by_cases o5 : e.Op = 5
 · simp only [o1, o2, o3, o4, o5, decide_true, decide_false, cond_true, cond_false, if_true, if_false]
   cases b1 <;> cases b2 <;> cases decide (0 = e.N) <;> cases decide ((⟨#[]⟩ : ByteArray) = e.Src) <;> rfl
 simp only [o1, o2, o3, o4, o5, decide_false, cond_false, if_false]
 cases Aw1 e.Op
 · simp only [cond_false, Bool.false_eq_true, if_false]
   cases decide (0 = e.N) <;> cases decide ((⟨#[]⟩ : ByteArray) = e.S) <;> cases decide ((⟨#[]⟩ : ByteArray) = e.Name) <;> cases decide ((⟨#[]⟩ : ByteArray) = e.Src) <;> rfl
 · simp only [cond_true, if_true]
   cases b1 <;> cases b3 <;> cases decide (0 = e.N) <;> cases decide ((⟨#[]⟩ : ByteArray) = e.S) <;> rfl
def BN7 (e : TE) : Bool := decide (FI e.Op = (e.Args.length : Int)) && Ay7 e
mutual
def okE : TE → Bool
 | ⟨op, n, s, name, src, args⟩ => BN7 ⟨op, n, s, name, src, args⟩ && Cd6 args
def Cd6 : List TE → Bool
 | [] => true
 | a :: l => okE a && Cd6 l
end
theorem BQ2 : ∀ l : List TE, Cd6 l = l.all okE
 | [] => rfl
 | a :: l => by rw [Cd6, BQ2 l]; rfl
theorem Ca6 (e : TE) : okE e = (BN7 e && e.Args.all okE) := by cases e; rw [okE, BQ2]
theorem LH {n : Nat} {l : List TE} {fn1 : TE → Option Bool} {b : TE → Bool} (hn : l.length < n) (hs : Ub l) (hf : ∀ x, x ∈ l → fn1 x = some (b x)) : ∃ v, BI n l fn1 = some v ∧ (0 ≤ v ↔ l.any b = true) := by
 unfold BI
 have := CT (l := l) (F := fun m (_ : Unit) v => AR l fn1 m v) (g := fun _ i x => if b x then .inl (some (i : Int)) else .inr ()) (fin := fun _ => some (-1))
   (fun m i x u hx => by
     have hlt := Cs hx
     show AR l fn1 (m + 1) (i : Int) = _
     rw [AR, BR, BC, hx]
     have h1 : (i : Int) < (l.length : Int) := by omega
     simp only [h1, decide_true, cond_true, Option.bind_some, hf x (List.mem_of_getElem? hx)]
     cases b x
     · simp only [cond_false, Bool.false_eq_true, if_false]; rw [Bk (by omega)]
     · rfl)
   (fun m u => by
     show AR l fn1 (m + 1) _ = _
     rw [AR, BR]; simp) (m := n) hn ()
 rw [this]
 exact Wm b l 0 ()
theorem FF {n : Nat} {l : List TE} {fn1 : TE → Option Bool} {b : TE → Bool} (hn : l.length < n) (hs : Ub l) (hf : ∀ x, x ∈ l → fn1 x = some (b x)) : Bg n l fn1 = some (l.any b) := by
 obtain ⟨v, h1, h2⟩ := LH hn hs hf
 rw [Bg, h1]
 simp only [Option.bind_some]
 congr 1
 rw [Bool.eq_iff_iff, decide_eq_true_iff]
 exact h2
theorem Mb {n : Nat} {l : List TS} {fn1 : TS → Option Bool} {b : TS → Bool} (hn : l.length < n) (hs : Ub l) (hf : ∀ x, x ∈ l → fn1 x = some (b x)) : ∃ v, BG n l fn1 = some v ∧ (0 ≤ v ↔ l.any b = true) := by
 unfold BG
 have := CT (l := l) (F := fun m (_ : Unit) v => AQ l fn1 m v) (g := fun _ i x => if b x then .inl (some (i : Int)) else .inr ()) (fin := fun _ => some (-1))
   (fun m i x u hx => by
     have hlt := Cs hx
     show AQ l fn1 (m + 1) (i : Int) = _
     rw [AQ, BS, BC, hx]
     have h1 : (i : Int) < (l.length : Int) := by omega
     simp only [h1, decide_true, cond_true, Option.bind_some, hf x (List.mem_of_getElem? hx)]
     cases b x
     · simp only [cond_false, Bool.false_eq_true, if_false]; rw [Bk (by omega)]
     · rfl)
   (fun m u => by
     show AQ l fn1 (m + 1) _ = _
     rw [AQ, BS]; simp) (m := n) hn ()
 rw [this]
 exact Wm b l 0 ()
theorem KH {n : Nat} {l : List TS} {fn1 : TS → Option Bool} {b : TS → Bool} (hn : l.length < n) (hs : Ub l) (hf : ∀ x, x ∈ l → fn1 x = some (b x)) : Bu n l fn1 = some (l.any b) := by
 obtain ⟨v, h1, h2⟩ := Mb hn hs hf
 rw [Bu, h1]
 simp only [Option.bind_some]
 congr 1
 rw [Bool.eq_iff_iff, decide_eq_true_iff]
 exact h2
theorem Bv2 {e : TE} (h : LimE e) : Ev (fun n => CP n e) (okE e) := by
 induction h with
 | mk e hl hk ih =>
   obtain ⟨N1, h1⟩ := BR2 e
   obtain ⟨N2, h2⟩ := Ev.all (l := e.Args) (f := fun n a => CP n a) (r := okE) ih
   refine ⟨N1 + N2 + 20, fun n hn => ?_⟩
   obtain ⟨m, rfl⟩ : ∃ m, n = m + 2 := ⟨n - 2, by omega⟩
   have h1 := h1 (m + 1) (by omega)
   simp only at h1
   have hf : ∀ x, x ∈ e.Args → DE (m + 1) x = some (!okE x) := fun x hx => by
     rw [DE, Iy, h2 m (by omega) x hx]; rfl
   show CP (m + 2) e = _
   rw [CP, Lw, h1, Option.bind_some, BO1]
   simp only [Hi]
   rw [FF (b := fun x => !okE x) (by omega) (by omega) hf]
   rw [Ca6, BN7]
   have e1 : (!e.Args.any fun x => !okE x) = e.Args.all okE := by rw [Bool.eq_iff_iff]; simp
   simp only [Option.bind_some, e1]
   cases decide (FI e.Op = (e.Args.length : Int)) <;> cases Ay7 e <;> rfl
theorem Bn5 {e : TE} {s : TE → Option Bool} {n : Nat} (hl : e.Args.length ≤ 10) (hn : 10 < n) (hs : ∀ a, a ∈ e.Args → s a = some (okE a)) (v9 : Int) (v10 v11 v12 : ByteArray) (v13 : Int) :
   Cg e s n v9 v10 v11 v12 v13 = some (decide (e.N = v9) && (decide (e.S = v10) && (decide (e.Name = v11) && (decide (e.Src = v12) && (decide ((e.Args.length : Int) = v13) && e.Args.all okE))))) := by
 have hloop : (e.Args.length : Int) = v13 → CD e s v13 n 0 = some (e.Args.all okE) := fun hv => by
   subst hv
   have := CT (l := e.Args) (F := fun m (_ : Unit) v => CD e s (e.Args.length : Int) m v) (g := fun _ _ x => if okE x then .inr () else .inl (some false)) (fin := fun _ => some true)
     (fun m i x u hx => by
       have hlt := Cs hx
       show CD e s _ (m + 1) (i : Int) = _
       rw [CD, IF, BC, hx]
       have h1 : (i : Int) < (e.Args.length : Int) := by omega
       simp only [h1, decide_true, cond_true, Option.bind_some, hs x (List.mem_of_getElem? hx)]
       cases okE x
       · rfl
       · simp only [Bool.not_true, cond_false, if_true]; rw [Bk (by omega)])
     (fun m u => by
       show CD e s _ (m + 1) _ = _
       rw [CD, IF]; simp) (m := n) (by omega) ()
   rw [this, AF0]
 simp only [Cg, Ht, Hz, Ho, Hh]
 by_cases h9 : e.N = v9 <;> by_cases h10 : e.S = v10 <;> by_cases h11 : e.Name = v11 <;> by_cases h12 : e.Src = v12 <;> by_cases h13 : (e.Args.length : Int) = v13 <;> simp [h9, h10, h11, h12, h13]
 all_goals (first | (rw [← h13]; exact hloop h13) | skip)
 all_goals exact hloop h13
theorem Bb9 {e : TE} (h : LimE e) : Ev (fun n => CL n e) (okE e) := by
 induction h with
 | mk e hl hk ih =>
   obtain ⟨N1, h1⟩ := G7 e.Name
   obtain ⟨N2, h2⟩ := G7 e.S
   obtain ⟨N3, h3⟩ := G7 e.Src
   obtain ⟨N4, h4⟩ := Ev.all (l := e.Args) (f := fun n a => CL n a) (r := okE) ih
   refine ⟨N1 + N2 + N3 + N4 + 20, fun n hn => ?_⟩
   obtain ⟨m, rfl⟩ : ∃ m, n = m + 1 := ⟨n - 1, by omega⟩
   have h1 := h1 m (by omega)
   have h2 := h2 m (by omega)
   have h3 := h3 m (by omega)
   simp only at h1 h2 h3
   show CL (m + 1) e = _
   have ht := Bn5 (s := CL m) (n := m) hl (by omega) (fun a ha => h4 m (by omega) a ha)
   rw [CL, Ca6, BN7]
   simp only [Lt, FN, Hy, Hs, Hk, Hf, h1, h2, h3, ht, Option.bind_some]
   have e0 : ∀ a b : ByteArray, decide (a = b) = decide (b = a) := fun a b => by rw [decide_eq_decide]; exact eq_comm
   have en : decide (e.N = 0) = decide (0 = e.N) := by rw [decide_eq_decide]; exact eq_comm
   have el : decide ((e.Args.length : Int) = 0) = decide (0 = (e.Args.length : Int)) := by rw [decide_eq_decide]; exact eq_comm
   have el1 : decide ((e.Args.length : Int) = 1) = decide (1 = (e.Args.length : Int)) := by rw [decide_eq_decide]; exact eq_comm
   have el2 : decide ((e.Args.length : Int) = 2) = decide (2 = (e.Args.length : Int)) := by rw [decide_eq_decide]; exact eq_comm
   have emax : decide (e.N = max e.N 0) = decide (0 ≤ e.N) := by rw [decide_eq_decide]; omega
   have emm : decide (e.N = min (max e.N 0) 1) = decide (0 ≤ e.N ∧ e.N ≤ 1) := by rw [decide_eq_decide]; omega
   have e200 : (decide ((200 : Int) < (e.S.size : Int))) = !decide (e.S.size ≤ 200) := by rw [Bool.eq_iff_iff]; simp; omega
   rw [e0 e.S ⟨#[]⟩, e0 e.Name ⟨#[]⟩, e0 e.Src ⟨#[]⟩, en, el, el1, el2, emax, emm, e200]
   simp only [decide_true, Bool.true_and]
   unfold Ay7
   generalize B8 e.Name = b1
   generalize B8 e.S = b2
   generalize B8 e.Src = b3
   generalize e.Args.all okE = b4
   generalize decide ((⟨#[]⟩ : ByteArray) = e.S) = b5
   generalize decide ((⟨#[]⟩ : ByteArray) = e.Name) = b6
   generalize decide ((⟨#[]⟩ : ByteArray) = e.Src) = b7
   generalize decide (0 = e.N) = b8
   generalize decide (e.S.size ≤ 200) = b9
   generalize decide (0 ≤ e.N) = b10
   generalize decide (0 ≤ e.N ∧ e.N ≤ 1) = b11
   have ar : FI e.Op = FI e.Op := rfl
   by_cases o1 : e.Op = 1
   · simp only [o1, decide_true, cond_true, if_true, show FI 1 = 0 from rfl]
     generalize decide (0 = (e.Args.length : Int)) = b12
     revert b5 b6 b7 b10 b12 b4; decide
   by_cases o2 : e.Op = 2
   · simp only [o1, o2, decide_true, decide_false, cond_true, cond_false, if_true, if_false, Int.reduceEq, show FI 2 = 0 from rfl]
     generalize decide (0 = (e.Args.length : Int)) = b12
     revert b6 b7 b8 b9 b12 b4; decide
   by_cases o3 : e.Op = 3
   · simp only [o1, o2, o3, decide_true, decide_false, cond_true, cond_false, if_true, if_false, Int.reduceEq, show FI 3 = 0 from rfl]
     generalize decide (0 = (e.Args.length : Int)) = b12
     revert b5 b6 b7 b11 b12 b4; decide
   by_cases o4 : e.Op = 4
   · simp only [o1, o2, o3, o4, decide_true, decide_false, cond_true, cond_false, if_true, if_false, Int.reduceEq, show FI 4 = 0 from rfl, show ¬ (4 : Int) = 5 by decide, show ¬ (5 : Int) < 4 by decide]
     generalize decide (0 = (e.Args.length : Int)) = b12
     revert b1 b5 b7 b8 b12 b4; decide
   by_cases o5 : e.Op = 5
   · simp only [o1, o2, o3, o4, o5, decide_true, decide_false, cond_true, cond_false, if_true, if_false, Int.reduceEq, show FI 5 = 0 from rfl, show ¬ (5 : Int) < 5 by decide]
     generalize decide (0 = (e.Args.length : Int)) = b12
     revert b1 b2 b7 b8 b12 b4; decide
   simp only [o1, o2, o3, o4, o5, decide_false, cond_false, if_false]
   by_cases o21 : e.Op = 21
   · simp only [o21, show Aw1 21 = true from rfl, show FI 21 = 1 from rfl, show (21 : Int) ≤ 21 by decide, show (21 : Int) ≤ 24 by decide, show (5 : Int) < 21 by decide, decide_true, cond_true, if_true]
     generalize decide (1 = (e.Args.length : Int)) = b12
     revert b1 b3 b5 b8 b12 b4; decide
   by_cases o22 : 22 ≤ e.Op ∧ e.Op ≤ 24
   · have q1 : Aw1 e.Op = true := by simp [Aw1]; omega
     have q2 : FI e.Op = 2 := by unfold FI; repeat' split <;> try omega
     simp only [q1, q2, o21, show (21 : Int) ≤ e.Op by omega, show e.Op ≤ 24 by omega, show (5 : Int) < e.Op by omega, decide_true, decide_false, cond_true, cond_false, if_true]
     generalize decide (2 = (e.Args.length : Int)) = b12
     revert b1 b3 b5 b8 b12 b4; decide
   have hr : Aw1 e.Op = false := by simp [Aw1]; omega
   simp only [hr, Bool.false_eq_true, if_false]
   have n21 : (bif decide ((21 : Int) ≤ e.Op) then decide (e.Op ≤ 24) else false) = false := by
     by_cases h : (21 : Int) ≤ e.Op
     · simp only [h, decide_true, cond_true]; simp; omega
     · simp [h]
   by_cases h21 : (21 : Int) ≤ e.Op
   · have h24 : ¬ e.Op ≤ 24 := by omega
     have q2 : FI e.Op = -1 := by unfold FI; repeat' split <;> try omega
     have q3 : decide ((-1 : Int) = (e.Args.length : Int)) = false := decide_eq_false (by omega)
     simp only [h21, h24, q2, q3, show (6 : Int) ≤ e.Op by omega, show ¬ e.Op ≤ 18 by omega, show ¬ e.Op = 19 by omega, show ¬ e.Op = 20 by omega, decide_true, decide_false, cond_true, cond_false, Bool.false_and]
   · simp only [h21, decide_false, cond_false]
     by_cases o6 : 6 ≤ e.Op ∧ e.Op ≤ 18
     · have q2 : FI e.Op = 2 := by unfold FI; repeat' split <;> try omega
       simp only [o6.1, o6.2, q2, decide_true, cond_true]
       generalize decide (2 = (e.Args.length : Int)) = b12
       revert b5 b6 b7 b8 b12 b4; decide
     · by_cases o19 : e.Op = 19 ∨ e.Op = 20
       · have q2 : FI e.Op = 1 := by unfold FI; repeat' split <;> try omega
         have h6 : (6 : Int) ≤ e.Op := by omega
         have h18 : ¬ e.Op ≤ 18 := by omega
         simp only [h6, h18, q2, decide_true, decide_false, cond_true, cond_false]
         generalize decide (1 = (e.Args.length : Int)) = b12
         rcases o19 with o | o
         · simp only [o, decide_true, cond_true]; revert b5 b6 b7 b8 b12 b4; decide
         · simp only [o, show ¬ (20 : Int) = 19 by decide, decide_true, decide_false, cond_true, cond_false]; revert b5 b6 b7 b8 b12 b4; decide
       · have q2 : FI e.Op = -1 := by unfold FI; repeat' split <;> try omega
         have q3 : decide ((-1 : Int) = (e.Args.length : Int)) = false := decide_eq_false (by omega)
         have h19 : ¬ e.Op = 19 := by omega
         have h20 : ¬ e.Op = 20 := by omega
         simp only [q2, q3, h19, h20, decide_false, cond_false, Bool.false_and]
         by_cases h6 : (6 : Int) ≤ e.Op
         · have h18 : ¬ e.Op ≤ 18 := by omega
           simp only [h6, h18, decide_true, decide_false, cond_true, cond_false]
         · simp only [h6, decide_false, cond_false]
end Go.Ax
namespace Go.Ax
inductive LimS : TS → Prop
 | mk (x : TS) (h0 : x.Cols.length ≤ 12) (h1 : x.Exprs.length ≤ 10) (h2 : x.Body.length ≤ 10) (h3 : x.Else.length ≤ 10) (he : ∀ a, a ∈ x.Exprs → LimE a) (hb : ∀ a, a ∈ x.Body → LimS a) (hc : ∀ a, a ∈ x.Else → LimS a) : LimS x
def nmO (op : Int) : Bool := decide (op = 1 ∨ op = 2 ∨ op = 4 ∨ op = 5 ∨ op = 6)
def srO (op : Int) : Bool := decide (op = 3 ∨ op = 4 ∨ op = 5 ∨ op = 6 ∨ op = 8)
def coO (op : Int) : Bool := decide (op = 4)
def nuO (op : Int) : Bool := decide (op = 6)
def boO (op : Int) : Bool := decide (op = 6 ∨ op = 7)
def otO (op : Int) : Bool := decide (op = 7)
def maO (op : Int) : Bool := decide (op = 3 ∨ op = 8 ∨ op = 10)
def Bp1 (b : Bool) (s : ByteArray) : Bool := bif b then B8 s else decide (s = (⟨#[]⟩ : ByteArray))
def Nm (b : Bool) (l : List ByteArray) : Bool := bif b then decide (1 ≤ l.length) && (decide (l.length ≤ 8) && (l.all B8 && decide l.Nodup)) else decide (l.length = 0)
def Ao3 (b : Bool) (n : Int) : Bool := bif b then decide (0 ≤ n) && decide (n ≤ 1000) else decide (n = 0)
def Sa (bo ot : Bool) (x : TS) : Bool := (bo || decide (x.Body.length = 0)) && (ot || decide (x.Else.length = 0))
def Ao4 (op : Int) (x : TS) : Bool := bif maO op then decide (1 ≤ x.Exprs.length) && decide (x.Exprs.length ≤ 8) else decide (x.Exprs.length = 1 + x.Cols.length)
def Fx (x : TS) : Bool := decide (1 ≤ x.Op ∧ x.Op ≤ 10) && (Bp1 (nmO x.Op) x.Name && (Bp1 (srO x.Op) x.Src && (Nm (coO x.Op) x.Cols && (Ao3 (nuO x.Op) x.N && (Ao4 x.Op x && Sa (boO x.Op) (otO x.Op) x)))))
theorem Bm5 (b : Bool) (s : ByteArray) : Ev (fun n => Gt n (Al7 b s)) (!b || B8 s) := by
 cases b
 · obtain ⟨N, h⟩ := R3 [] (by simp)
   exact ⟨N, fun n hn => h n hn⟩
 · obtain ⟨N, h⟩ := R3 [s] (by simp)
   exact ⟨N, fun n hn => by have := h n hn; simpa [Al7] using this⟩
theorem Br0 : B8 (⟨#[]⟩ : ByteArray) = false := by decide
theorem Bf3 (a b c : Nat) : CY (a : Int) (b : Int) (c : Int) = (decide (b ≤ a) && decide (a ≤ c)) := by
 unfold CY
 by_cases h : b ≤ a
 · have : (b : Int) ≤ (a : Int) := by omega
   simp [h, this]
 · have : ¬ (b : Int) ≤ (a : Int) := by omega
   simp [h, this]
theorem By0 (x : TS) (h0 : x.Cols.length ≤ 12) (v3 v4 v5 v6 v7 v10 : Bool) (lo hi : Nat) :
   Ev (fun n => Dc x n v3 v4 v5 v6 v7 (lo : Int) (hi : Int) v10) (Bp1 v3 x.Name && (Bp1 v10 x.Src && (Nm v4 x.Cols && (Ao3 v5 x.N && ((decide (lo ≤ x.Exprs.length) && decide (x.Exprs.length ≤ hi)) && Sa v6 v7 x))))) := by
 obtain ⟨N1, h1⟩ := Bm5 v3 x.Name
 obtain ⟨N2, h2⟩ := Bm5 v10 x.Src
 obtain ⟨N3, h3⟩ := R3 x.Cols (by unfold Ub; omega)
 refine ⟨N1 + N2 + N3, fun n hn => ?_⟩
 have h1 := h1 n (by omega)
 have h2 := h2 n (by omega)
 have h3 := h3 n (by omega)
 simp only at h1 h2 h3
 have hu : TW x.Cols = some (decide x.Cols.Nodup) := by unfold TW; rw [if_pos (by omega)]
 have hw1 : CY (x.Cols.length : Int) 1 8 = (decide (1 ≤ x.Cols.length) && decide (x.Cols.length ≤ 8)) := Bf3 x.Cols.length 1 8
 have hw2 : CY (x.Exprs.length : Int) (lo : Int) (hi : Int) = _ := Bf3 x.Exprs.length lo hi
 have hw3 : CY x.N 0 1000 = (decide (0 ≤ x.N) && decide (x.N ≤ 1000)) := by
   unfold CY; cases decide (0 ≤ x.N) <;> rfl
 have d1 : decide ((x.Body.length : Int) = 0) = decide (x.Body.length = 0) := by rw [decide_eq_decide]; omega
 have d2 : decide ((x.Else.length : Int) = 0) = decide (x.Else.length = 0) := by rw [decide_eq_decide]; omega
 have d3 : decide ((x.Cols.length : Int) = 0) = decide (x.Cols.length = 0) := by rw [decide_eq_decide]; omega
 have J7 : ∀ t, Ih x v7 t = some (t && (v7 || decide (x.Else.length = 0))) := fun t => by
   rw [Ih, d2]; cases t <;> cases v7 <;> rfl
 have J6 : ∀ t, Ki x v6 v7 t = some (t && Sa v6 v7 x) := fun t => by
   rw [Ki, J7, J7, J7, d1, Sa]; cases t <;> cases v6 <;> simp
 have J5 : ∀ t, Fa x v6 v7 (lo : Int) (hi : Int) t = some (t && ((decide (lo ≤ x.Exprs.length) && decide (x.Exprs.length ≤ hi)) && Sa v6 v7 x)) := fun t => by
   rw [Fa, J6, J6, hw2]; cases t <;> simp
 have J4 : ∀ t, De x v5 v6 v7 (lo : Int) (hi : Int) t = some (t && (Ao3 v5 x.N && ((decide (lo ≤ x.Exprs.length) && decide (x.Exprs.length ≤ hi)) && Sa v6 v7 x))) := fun t => by
   rw [De, J5, J5, J5, hw3, Ao3]; cases t <;> cases v5 <;> simp
   cases decide (0 ≤ x.N) <;> cases decide (x.N ≤ 1000) <;> simp
 have J3 : ∀ t, H5 x n v4 v5 v6 v7 (lo : Int) (hi : Int) t = some (t && (Nm v4 x.Cols && (Ao3 v5 x.N && ((decide (lo ≤ x.Exprs.length) && decide (x.Exprs.length ≤ hi)) && Sa v6 v7 x)))) := fun t => by
   rw [H5, J4, J4, J4, hw1, h3, hu, d3, Nm]
   simp only [Option.bind_some]
   generalize x.Cols.all B8 = b5
   generalize decide x.Cols.Nodup = b6
   generalize decide (1 ≤ x.Cols.length) = b7
   generalize decide (x.Cols.length ≤ 8) = b8
   cases t <;> cases v4 <;> simp
   cases b5 <;> cases b6 <;> cases b7 <;> cases b8 <;> simp
 have J2 : ∀ t, H7 x n v4 v5 v6 v7 (lo : Int) (hi : Int) v10 t = some (t && ((v10 || decide (x.Src = (⟨#[]⟩ : ByteArray))) && (Nm v4 x.Cols && (Ao3 v5 x.N && ((decide (lo ≤ x.Exprs.length) && decide (x.Exprs.length ≤ hi)) && Sa v6 v7 x))))) := fun t => by
   rw [H7, J3, J3, J3]; cases t <;> cases v10 <;> simp
 have J1 : ∀ t, Kp x n v3 v4 v5 v6 v7 (lo : Int) (hi : Int) v10 t = some (t && ((v3 || decide (x.Name = (⟨#[]⟩ : ByteArray))) && ((v10 || decide (x.Src = (⟨#[]⟩ : ByteArray))) && (Nm v4 x.Cols && (Ao3 v5 x.N && ((decide (lo ≤ x.Exprs.length) && decide (x.Exprs.length ≤ hi)) && Sa v6 v7 x)))))) := fun t => by
   rw [Kp, J2, J2, J2]; cases t <;> cases v3 <;> simp
 show Dc x n v3 v4 v5 v6 v7 (lo : Int) (hi : Int) v10 = _
 rw [Dc, h1, h2]
 simp only [Option.bind_some, J1, Bp1]
 generalize (Nm v4 x.Cols && (Ao3 v5 x.N && ((decide (lo ≤ x.Exprs.length) && decide (x.Exprs.length ≤ hi)) && Sa v6 v7 x))) = t
 cases v3 <;> cases v10 <;> simp
 · cases decide (x.Name = (⟨#[]⟩ : ByteArray)) <;> cases B8 x.Src <;> simp
 · cases B8 x.Name <;> simp
 · cases B8 x.Name <;> cases B8 x.Src <;> simp
theorem BX5 (x : TS) (h0 : x.Cols.length ≤ 12) : Ev (fun n => Eb n x) (Fx x) := by
 have hw : IntKind.wrap .i64 ((x.Cols.length : Int) + 1) = ((x.Cols.length + 1 : Nat) : Int) := Bk (by omega)
 have key : ∀ (v3 v4 v5 v6 v7 v10 : Bool) (lo hi : Nat), (∀ n, Eb n x = Dc x n v3 v4 v5 v6 v7 (lo : Int) (hi : Int) v10) →
     ((Bp1 v3 x.Name && (Bp1 v10 x.Src && (Nm v4 x.Cols && (Ao3 v5 x.N && ((decide (lo ≤ x.Exprs.length) && decide (x.Exprs.length ≤ hi)) && Sa v6 v7 x))))) = Fx x) → Ev (fun n => Eb n x) (Fx x) :=
   fun v3 v4 v5 v6 v7 v10 lo hi h1 h2 => h2 ▸ (By0 x h0 v3 v4 v5 v6 v7 v10 lo hi).of h1
 have one : (decide (1 ≤ x.Exprs.length) && decide (x.Exprs.length ≤ 1)) = decide (x.Exprs.length = 1) := by rw [Bool.eq_iff_iff]; simp; omega
 have cnt : (decide (x.Cols.length + 1 ≤ x.Exprs.length) && decide (x.Exprs.length ≤ x.Cols.length + 1)) = decide (x.Exprs.length = 1 + x.Cols.length) := by rw [Bool.eq_iff_iff]; simp; omega
 have nocols : ∀ t : Bool, (Nm false x.Cols && (Ao3 false x.N && (decide (x.Exprs.length = 1) && t))) = (Nm false x.Cols && (Ao3 false x.N && (decide (x.Exprs.length = 1 + x.Cols.length) && t))) := fun t => by
   simp only [Nm, cond_false]
   by_cases h : x.Cols.length = 0
   · simp [h]
   · simp [h]
 have nocols2 : ∀ t : Bool, (Nm false x.Cols && (Ao3 true x.N && (decide (x.Exprs.length = 1) && t))) = (Nm false x.Cols && (Ao3 true x.N && (decide (x.Exprs.length = 1 + x.Cols.length) && t))) := fun t => by
   simp only [Nm, cond_false]
   by_cases h : x.Cols.length = 0
   · simp [h]
   · simp [h]
 by_cases o1 : x.Op = 1
 · exact key true false false false false false 1 1 (fun n => by simp [Eb, CX, o1]) (by rw [one]; simp only [Fx, Ao4, o1]; rw [nocols]; rfl)
 by_cases o2 : x.Op = 2
 · exact key true false false false false false 1 1 (fun n => by simp [Eb, CX, o2]) (by rw [one]; simp only [Fx, Ao4, o2]; rw [nocols]; rfl)
 by_cases o3 : x.Op = 3
 · exact key false false false false false true 1 8 (fun n => by simp [Eb, CX, Dt, o3]) (by simp only [Fx, Ao4, o3]; rfl)
 by_cases o8 : x.Op = 8
 · exact key false false false false false true 1 8 (fun n => by simp [Eb, CX, Dt, o8]) (by simp only [Fx, Ao4, o8]; rfl)
 by_cases o4 : x.Op = 4
 · exact key true true false false false true (x.Cols.length + 1) (x.Cols.length + 1) (fun n => by simp [Eb, CX, Dt, o4, hw]) (by rw [cnt]; simp only [Fx, Ao4, o4]; rfl)
 by_cases o5 : x.Op = 5
 · exact key true false false false false true 1 1 (fun n => by simp [Eb, CX, Dt, o5]) (by rw [one]; simp only [Fx, Ao4, o5]; rw [nocols]; rfl)
 by_cases o6 : x.Op = 6
 · exact key true false true true false true 1 1 (fun n => by simp [Eb, CX, Dt, o6]) (by rw [one]; simp only [Fx, Ao4, o6]; rw [nocols2]; rfl)
 by_cases o7 : x.Op = 7
 · exact key false false false true true false 1 1 (fun n => by simp [Eb, CX, Dt, o7]) (by rw [one]; simp only [Fx, Ao4, o7]; rw [nocols]; rfl)
 by_cases o9 : x.Op = 9
 · exact key false false false false false false 1 1 (fun n => by simp [Eb, CX, Dt, o9]) (by rw [one]; simp only [Fx, Ao4, o9]; rw [nocols]; rfl)
 by_cases o10 : x.Op = 10
 · exact key false false false false false false 1 8 (fun n => by simp [Eb, CX, Dt, o10]) (by simp only [Fx, Ao4, o10]; rfl)
 have hf : Ev (fun n => Eb n x) false := ⟨0, fun n _ => by simp [Eb, CX, Dt, o1, o2, o3, o4, o5, o6, o7, o8, o9, o10]⟩
 have : Fx x = false := by
   have : ¬ (1 ≤ x.Op ∧ x.Op ≤ 10) := by omega
   simp [Fx, this]
 rw [this]; exact hf
mutual
def okS : TS → Bool
 | ⟨op, name, src, n, cols, exprs, body, els⟩ => Fx ⟨op, name, src, n, cols, exprs, body, els⟩ && (exprs.all okE && (BY0 body && BY0 els))
def BY0 : List TS → Bool
 | [] => true
 | a :: l => okS a && BY0 l
end
theorem Bu4 : ∀ l : List TS, BY0 l = l.all okS
 | [] => rfl
 | a :: l => by rw [BY0, Bu4 l]; rfl
theorem BV2 (x : TS) : okS x = (Fx x && (x.Exprs.all okE && (x.Body.all okS && x.Else.all okS))) := by cases x; rw [okS, Bu4, Bu4]
theorem AO2 {l : List TS} (hl : l.length ≤ 100) {N : Nat} (h : ∀ n, N ≤ n → ∀ x, x ∈ l → EX n x = some (okS x)) : ∀ n, N + 103 ≤ n → EU n l = some (l.all okS) := fun n hn => by
 obtain ⟨m, rfl⟩ : ∃ m, n = m + 2 := ⟨n - 2, by omega⟩
 have hf : ∀ x, x ∈ l → EN (m + 1) x = some (!okS x) := fun x hx => by
   rw [EN, MC, h m (by omega) x hx]; rfl
 rw [EU, TK, KH (b := fun x => !okS x) (by omega) (by unfold Ub; omega) hf]
 have e1 : (!l.any fun x => !okS x) = l.all okS := by rw [Bool.eq_iff_iff]; simp
 simp only [Option.bind_some, e1]
theorem BU4 {x : TS} (h : LimS x) : Ev (fun n => EX n x) (okS x) := by
 induction h with
 | mk x h0 h1 h2 h3 he hb hc ihb ihc =>
   obtain ⟨N1, g1⟩ := BX5 x h0
   obtain ⟨N2, g2⟩ := Ev.all (l := x.Exprs) (f := fun n a => CP n a) (r := okE) (fun a ha => Bv2 (he a ha))
   obtain ⟨N3, g3⟩ := Ev.all (l := x.Body) (f := fun n a => EX n a) (r := okS) ihb
   obtain ⟨N4, g4⟩ := Ev.all (l := x.Else) (f := fun n a => EX n a) (r := okS) ihc
   refine ⟨N1 + N2 + N3 + N4 + 120, fun n hn => ?_⟩
   obtain ⟨m, rfl⟩ : ∃ m, n = m + 1 := ⟨n - 1, by omega⟩
   have g1 := g1 m (by omega)
   simp only at g1
   have hf : ∀ a, a ∈ x.Exprs → L8 m a = some (!okE a) := fun a ha => by
     rw [L8, g2 m (by omega) a ha]; rfl
   show EX (m + 1) x = _
   rw [EX, X4, g1, Option.bind_some, FF (b := fun x => !okE x) (by omega) (by unfold Ub; omega) hf]
   have e1 : (!x.Exprs.any fun x => !okE x) = x.Exprs.all okE := by rw [Bool.eq_iff_iff]; simp
   simp only [Option.bind_some, e1, M8, Ni, AO2 (by omega) g3 m (by omega), AO2 (by omega) g4 m (by omega)]
   rw [BV2]
   cases Fx x <;> cases x.Exprs.all okE <;> cases x.Body.all okS <;> simp
theorem BS2 {l : List TS} (hl : l.length ≤ 100) (h : ∀ x, x ∈ l → LimS x) : Ev (fun n => EU n l) (l.all okS) := by
 obtain ⟨N, g⟩ := Ev.all (l := l) (f := fun n a => EX n a) (r := okS) (fun a ha => BU4 (h a ha))
 exact ⟨N + 103, AO2 hl g⟩
end Go.Ax
namespace Go.Ax
theorem Bt0 (s : ByteArray) (c : Int) (hs : s.size ≤ 100) {n : Nat} (hn : 101 ≤ n) : GY n s c = some ((DV s).any fun x => decide (x = c)) := by
 have hl := As2 s
 unfold GY
 have := CT (l := DV s) (F := fun m (_ : Unit) v => I7 s c m v) (g := fun _ _ x => if decide (x = c) then .inl (some true) else .inr ()) (fin := fun _ => some false)
   (fun m i x u hx => by
     have hlt := Cs hx
     show I7 s c (m + 1) (i : Int) = _
     rw [I7, Am1, Be7, hx]
     have h1 : (i : Int) < (s.size : Int) := by omega
     simp only [h1, decide_true, cond_true, Option.bind_some]
     cases decide (x = c)
     · simp only [cond_false, Bool.false_eq_true, if_false]; rw [Bk (by omega)]
     · rfl)
   (fun m u => by
     show I7 s c (m + 1) _ = _
     rw [I7, Am1, hl]; simp) (m := n) (by omega) ()
 rw [this]
 have key : ∀ (l : List Int) (i : Nat) (u : Unit), ID (ρ := Bool) (fun _ _ x => if decide (x = c) then .inl (some true) else .inr ()) (fun _ => some false) l i u = some (l.any fun x => decide (x = c)) := by
   intro l
   induction l with
   | nil => intro i u; rfl
   | cons x r ih =>
     intro i u
     rw [ID, List.any_cons]
     cases decide (x = c)
     · simp only [Bool.false_eq_true, if_false, ih, Bool.false_or]
     · rfl
 exact key _ _ _
theorem Ae2 {α ρ : Type} (p : α → Bool) (v t : Option ρ) : ∀ (l : List α) (i : Nat) (u : Unit), ID (fun _ _ x => if p x then .inl v else .inr ()) (fun _ => t) l i u = if l.any p then v else t
 | [], i, u => rfl
 | x :: r, i, u => by
   rw [ID, List.any_cons]
   cases h : p x
   · simp only [Bool.false_eq_true, if_false, Bool.false_or]; exact Ae2 p v t r _ _
   · simp
def GA (pre : List ByteArray) : List ByteArray → Bool
 | [] => true
 | x :: r => !(pre.any fun y => decide (y = x)) && GA (pre ++ [x]) r
theorem Ap1 : ∀ (l pre : List ByteArray), GA pre l = true ↔ l.Nodup ∧ ∀ x, x ∈ l → ¬ x ∈ pre
 | [], pre => by simp [GA]
 | x :: r, pre => by
   rw [GA, Bool.and_eq_true, Ap1 r, List.nodup_cons]
   have e : (!(pre.any fun y => decide (y = x))) = true ↔ ¬ x ∈ pre := by
     rw [Bool.not_eq_true', List.any_eq_false]
     constructor
     · intro h hm; exact h x hm (by simp)
     · intro h y hy he
       have := of_decide_eq_true he
       subst this; exact h hy
   rw [e]
   constructor
   · rintro ⟨h1, h2, h3⟩
     refine ⟨⟨fun hm => h3 x hm (by simp), h2⟩, fun y hy => ?_⟩
     rcases List.mem_cons.1 hy with rfl | hy
     · exact h1
     · exact fun hm => h3 y hy (by simp [hm])
   · rintro ⟨⟨h1, h2⟩, h3⟩
     refine ⟨h3 x (by simp), h2, fun y hy hm => ?_⟩
     rcases List.mem_append.1 hm with hm | hm
     · exact h3 y (by simp [hy]) hm
     · have : y = x := by simpa using hm
       subst this; exact h1 hy
theorem Ar2 (l : List ByteArray) : GA [] l = decide l.Nodup := by
 rw [Bool.eq_iff_iff, Ap1, decide_eq_true_iff]; simp
theorem BR3 {x : TS} {s : List TS → Option Bool} {n : Nat} (h0 : x.Cols.length ≤ 12) (hn : 100 ≤ n) (hf : ∀ c, c ∈ x.Cols → EE n c = some (B8 c)) {t : Option Bool} (ht : KC x s n = t) :
   Db x s n = if (x.Cols.all B8 && decide x.Cols.Nodup) = true then t else some false := by
 have inner : ∀ (i : Nat) (c : ByteArray) (rec : Int → Option Bool), x.Cols[i]? = some c → EI x (i : Int) rec n 0 = if ((x.Cols.take i).any fun y => decide (y = c)) = true then some false else rec ((i + 1 : Nat) : Int) := by
   intro i c rec hc
   have hi := Cs hc
   have hlen : (x.Cols.take i).length = i := by rw [List.length_take]; omega
   have := CT (l := x.Cols.take i) (F := fun m (_ : Unit) v => EI x (i : Int) rec m v) (g := fun _ _ y => if decide (y = c) then .inl (some false) else .inr ()) (fin := fun _ => rec ((i + 1 : Nat) : Int))
     (fun m k y u hy => by
       have hlt := Cs hy
       have hy' : x.Cols[k]? = some y := by rw [List.getElem?_take] at hy; split at hy <;> first | exact hy | cases hy
       show EI x (i : Int) rec (m + 1) (k : Int) = _
       rw [EI, Q5, BC, BC, hy', hc]
       have h1 : (k : Int) < (i : Int) := by omega
       simp only [h1, decide_true, cond_true, Option.bind_some]
       cases decide (y = c)
       · simp only [cond_false, Bool.false_eq_true, if_false]; rw [Bk (by omega)]
       · rfl)
     (fun m u => by
       show EI x (i : Int) rec (m + 1) _ = _
       rw [EI, Q5, hlen]
       simp only [Int.lt_irrefl, decide_false, cond_false]
       rw [Bk (by omega)]) (m := n) (by omega) ()
   rw [this, Ae2]
 unfold Db
 have := CT (l := x.Cols) (F := fun m (_ : Unit) v => E7 x s n m v) (g := fun _ i c => if (B8 c && !((x.Cols.take i).any fun y => decide (y = c))) = true then .inr () else .inl (some false)) (fin := fun _ => t)
   (fun m i c u hc => by
     have hlt := Cs hc
     show E7 x s n (m + 1) (i : Int) = _
     rw [E7, Q0, BC, hc]
     have h1 : (i : Int) < (x.Cols.length : Int) := by omega
     simp only [h1, decide_true, cond_true, Option.bind_some, hf c (List.mem_of_getElem? hc), inner i c _ hc]
     cases B8 c
     · rfl
     · cases ((x.Cols.take i).any fun y => decide (y = c)) <;> rfl)
   (fun m u => by
     show E7 x s n (m + 1) _ = _
     rw [E7, Q0]; simpa using ht) (m := n) (by omega) ()
 rw [this]
 have key : ∀ (r pre : List ByteArray) (i : Nat) (u : Unit), x.Cols = pre ++ r → pre.length = i → ID (fun _ i c => if (B8 c && !((x.Cols.take i).any fun y => decide (y = c))) = true then .inr () else .inl (some false)) (fun _ => t) r i u = if (r.all B8 && GA pre r) = true then t else some false := by
   intro r
   induction r with
   | nil => intro pre i u _ _; simp [ID, GA]
   | cons c r ih =>
     intro pre i u he hi
     have htake : x.Cols.take i = pre := by rw [he, ← hi, List.take_left]
     rw [ID, htake, List.all_cons, GA]
     cases hfc : B8 c
     · simp
     · cases hp : (pre.any fun y => decide (y = c))
       · simp only [Bool.not_false, Bool.and_self, if_true, Bool.true_and]
         exact ih (pre ++ [c]) (i + 1) () (by rw [he]; simp) (by simp [hi])
       · simp
 rw [key x.Cols [] 0 () (by simp) rfl, Ar2]
theorem BJ6 {x : TS} {s : List TS → Option Bool} {n : Nat} (h1 : x.Exprs.length ≤ 10) (hn : 100 ≤ n) (hf : ∀ c, c ∈ x.Exprs → CL n c = some (okE c)) {b1 b2 : Bool} (hb : s x.Body = some b1) (hc : s x.Else = some b2) :
   Ig x s n = some (x.Exprs.all okE && (b1 && b2)) := by
 unfold Ig
 have h6 : MT x s = some (b1 && b2) := by
   rw [MT, hb, hc]; cases b1 <;> rfl
 have := CT (l := x.Exprs) (F := fun m (_ : Unit) v => E9 x s n m v) (g := fun _ i c => if (!okE c) = true then .inl (some false) else .inr ()) (fin := fun _ => some (b1 && b2))
   (fun m i c u hc => by
     have hlt := Cs hc
     show E9 x s n (m + 1) (i : Int) = _
     rw [E9, Rz, BC, hc]
     have h1 : (i : Int) < (x.Exprs.length : Int) := by omega
     simp only [h1, decide_true, cond_true, Option.bind_some, hf c (List.mem_of_getElem? hc)]
     cases okE c
     · rfl
     · simp only [Bool.not_true, cond_false, Bool.false_eq_true, if_false]; rw [Bk (by omega)])
   (fun m u => by
     show E9 x s n (m + 1) _ = _
     rw [E9, Rz]; simpa using h6) (m := n) (by omega) ()
 rw [this, Ae2]
 have e1 : (x.Exprs.any fun c => !okE c) = !x.Exprs.all okE := by rw [Bool.eq_iff_iff]; simp
 rw [e1]
 cases x.Exprs.all okE <;> simp
theorem Ci4 {x : TS} {s : List TS → Option Bool} {n : Nat} (h0 : x.Cols.length ≤ 12) {t : Bool} (ht : Ig x s n = some t) : KC x s n = some (Ao4 x.Op x && t) := by
 have hw : IntKind.wrap .i64 ((1 : Int) + (x.Cols.length : Int)) = ((1 + x.Cols.length : Nat) : Int) := by
   have hh := EH (n := (1 : Int) + (x.Cols.length : Int)) (by omega) (by omega)
   rw [hh]; omega
 have e1 : decide ((x.Exprs.length : Int) < 1) = !decide (1 ≤ x.Exprs.length) := by rw [Bool.eq_iff_iff, decide_eq_true_iff, Bool.not_eq_true', decide_eq_false_iff_not]; omega
 have e2 : decide ((8 : Int) < (x.Exprs.length : Int)) = !decide (x.Exprs.length ≤ 8) := by rw [Bool.eq_iff_iff, decide_eq_true_iff, Bool.not_eq_true', decide_eq_false_iff_not]; omega
 have e3 : decide ((x.Exprs.length : Int) = ((1 + x.Cols.length : Nat) : Int)) = decide (x.Exprs.length = 1 + x.Cols.length) := by rw [decide_eq_decide]; omega
 have J4 : ∀ v, H2 x s n v = some ((bif v then decide (1 ≤ x.Exprs.length) && decide (x.Exprs.length ≤ 8) else decide (x.Exprs.length = 1 + x.Cols.length)) && t) := fun v => by
   simp only [H2, Kw, hw, e1, e2, e3, ht]
   generalize decide (1 ≤ x.Exprs.length) = b1
   generalize decide (x.Exprs.length ≤ 8) = b2
   generalize decide (x.Exprs.length = 1 + x.Cols.length) = b3
   clear ht
   revert v b1 b2 b3 t; decide
 rw [KC, J4, J4, Ao4]
 have : maO x.Op = (decide (x.Op = 3) || (decide (x.Op = 8) || decide (x.Op = 10))) := by rw [Bool.eq_iff_iff]; simp [maO]
 rw [this]
 cases decide (x.Op = 3) <;> cases decide (x.Op = 8) <;> rfl
theorem Ch8 {x : TS} {s : List TS → Option Bool} {n : Nat} {v2 : ByteArray} {co nu bo ot : Bool} (g1 : GY n v2 99 = some co) (g2 : GY n v2 78 = some nu) (g3 : GY n v2 98 = some bo) (g4 : GY n v2 101 = some ot) {t : Bool} (ht : Db x s n = some t) :
   DQ x s n v2 = some (((co == decide (0 < x.Cols.length)) && decide (x.Cols.length ≤ 8)) && (((nu || decide (x.N = 0)) && (decide (0 ≤ x.N) && decide (x.N ≤ 1000))) && (Sa bo ot x && t))) := by
 have e1 : decide ((0 : Int) < (x.Cols.length : Int)) = decide (0 < x.Cols.length) := by rw [decide_eq_decide]; omega
 have e2 : decide ((8 : Int) < (x.Cols.length : Int)) = !decide (x.Cols.length ≤ 8) := by rw [Bool.eq_iff_iff, decide_eq_true_iff, Bool.not_eq_true', decide_eq_false_iff_not]; omega
 have e3 : decide (x.N < 0) = !decide (0 ≤ x.N) := by rw [Bool.eq_iff_iff]; simp
 have e4 : decide ((1000 : Int) < x.N) = !decide (x.N ≤ 1000) := by rw [Bool.eq_iff_iff]; simp
 have e5 : decide ((0 : Int) < (x.Body.length : Int)) = !decide (x.Body.length = 0) := by rw [Bool.eq_iff_iff, decide_eq_true_iff, Bool.not_eq_true', decide_eq_false_iff_not]; omega
 have e6 : decide ((0 : Int) < (x.Else.length : Int)) = !decide (x.Else.length = 0) := by rw [Bool.eq_iff_iff, decide_eq_true_iff, Bool.not_eq_true', decide_eq_false_iff_not]; omega
 simp only [DQ, g1, g2, g3, g4, ht, Option.bind_some, e1, e2, e3, e4, e5, e6, Sa]
 generalize decide (0 < x.Cols.length) = a1
 generalize decide (x.Cols.length ≤ 8) = a2
 generalize decide (x.N = 0) = a3
 generalize decide (0 ≤ x.N) = a4
 generalize decide (x.N ≤ 1000) = a5
 generalize decide (x.Body.length = 0) = a6
 generalize decide (x.Else.length = 0) = a7
 cases co == a1 <;> cases a2 <;> cases nu <;> cases a3 <;> cases a4 <;> cases a5 <;> (try rfl) <;> cases bo <;> cases ot <;> cases a6 <;> cases a7 <;> cases t <;> rfl
theorem XO {l : List TS} (hl : l.length ≤ 100) {N : Nat} (h : ∀ n, N ≤ n → ∀ x, x ∈ l → Fv n x = some (okS x)) : ∀ n, N + 103 ≤ n → Di n l = some (l.all okS) := fun n hn => by
 obtain ⟨m, rfl⟩ : ∃ m, n = m + 1 := ⟨n - 1, by omega⟩
 rw [Di, TO]
 have := CT (l := l) (F := fun k (_ : Unit) v => EC l (Fv m) k v) (g := fun _ i c => if (!okS c) = true then .inl (some false) else .inr ()) (fin := fun _ => some true)
   (fun k i c u hc => by
     have hlt := Cs hc
     show EC l _ (k + 1) (i : Int) = _
     rw [EC, ME, BC, hc]
     have h1 : (i : Int) < (l.length : Int) := by omega
     simp only [h1, decide_true, cond_true, Option.bind_some, h m (by omega) c (List.mem_of_getElem? hc)]
     cases okS c
     · rfl
     · simp only [Bool.not_true, cond_false, Bool.false_eq_true, if_false]; rw [Bk (by omega)])
   (fun k u => by
     show EC l _ (k + 1) _ = _
     rw [EC, ME]; simp) (m := m) (by omega) ()
 rw [this, Ae2]
 have e1 : (l.any fun c => !okS c) = !l.all okS := by rw [Bool.eq_iff_iff]; simp
 rw [e1]
 cases l.all okS <;> rfl
theorem Bz0 {x : TS} (h : LimS x) : Ev (fun n => Fv n x) (okS x) := by
 induction h with
 | mk x h0 h1 h2 h3 he hb hc ihb ihc =>
   obtain ⟨N1, g1⟩ := G7 x.Name
   obtain ⟨N1', g1'⟩ := G7 x.Src
   obtain ⟨N1'', g1''⟩ := Ev.all (l := x.Cols) (f := fun n a => EE n a) (r := B8) (fun a _ => G7 a)
   obtain ⟨N2, g2⟩ := Ev.all (l := x.Exprs) (f := fun n a => CL n a) (r := okE) (fun a ha => Bb9 (he a ha))
   obtain ⟨N3, g3⟩ := Ev.all (l := x.Body) (f := fun n a => Fv n a) (r := okS) ihb
   obtain ⟨N4, g4⟩ := Ev.all (l := x.Else) (f := fun n a => Fv n a) (r := okS) ihc
   refine ⟨N1 + N1' + N1'' + N2 + N3 + N4 + 220, fun n hn => ?_⟩
   obtain ⟨m, rfl⟩ : ∃ m, n = m + 1 := ⟨n - 1, by omega⟩
   have g1 := g1 m (by omega)
   have g1' := g1' m (by omega)
   simp only at g1 g1'
   have g5 := BJ6 (s := Di m) (n := m) h1 (by omega) (g2 m (by omega)) (XO (by omega) g3 m (by omega)) (XO (by omega) g4 m (by omega))
   have gj3 := Ci4 h0 g5
   have gj2 := BR3 h0 (by omega) (g1'' m (by omega)) gj3
   have gj2' : Db x (Di m) m = some ((x.Cols.all B8 && decide x.Cols.Nodup) && (Ao4 x.Op x && (x.Exprs.all okE && (x.Body.all okS && x.Else.all okS)))) := by
     rw [gj2]
     cases (x.Cols.all B8 && decide x.Cols.Nodup) <;> simp
   show Fv (m + 1) x = _
   rw [Fv, XJ, BV2]
   by_cases hop : 1 ≤ x.Op ∧ x.Op ≤ 10
   · have o1 : ¬ x.Op < 1 := by omega
     have o2 : ¬ 10 < x.Op := by omega
     simp only [o1, o2, decide_false, cond_false, H8]
     -- the fields' letters
     have fin : ∀ (v2 : ByteArray), v2.size ≤ 100 → ((DV v2).any fun y => decide (y = 110)) = nmO x.Op → ((DV v2).any fun y => decide (y = 115)) = srO x.Op → ((DV v2).any fun y => decide (y = 99)) = coO x.Op → ((DV v2).any fun y => decide (y = 78)) = nuO x.Op → ((DV v2).any fun y => decide (y = 98)) = boO x.Op → ((DV v2).any fun y => decide (y = 101)) = otO x.Op →
         ((GY m v2 (110 : Int)).bind fun v3 => (bif (!(v3 == (!decide (x.Name = (⟨#[]⟩ : ByteArray))))) then some false else ((GY m v2 (115 : Int)).bind fun v4 => (bif (!(v4 == (!decide (x.Src = (⟨#[]⟩ : ByteArray))))) then some false else ((GY m v2 (110 : Int)).bind fun v5 => (bif v5 then ((EE m x.Name).bind fun v6 => (bif (!v6) then some false else ((GY m v2 (115 : Int)).bind fun v7 => (bif v7 then ((EE m x.Src).bind fun v8 => (bif (!v8) then some false else (DQ x (Di m) m v2))) else (DQ x (Di m) m v2))))) else ((GY m v2 (115 : Int)).bind fun v9 => (bif v9 then ((EE m x.Src).bind fun v10 => (bif (!v10) then some false else (DQ x (Di m) m v2))) else (DQ x (Di m) m v2))))))))) = some (Fx x && (x.Exprs.all okE && (x.Body.all okS && x.Else.all okS))) := by
       intro v2 hv q1 q2 q3 q4 q5 q6
       have i1 := Bt0 v2 110 hv (n := m) (by omega)
       have i2 := Bt0 v2 115 hv (n := m) (by omega)
       have i3 := Bt0 v2 99 hv (n := m) (by omega)
       have i4 := Bt0 v2 78 hv (n := m) (by omega)
       have i5 := Bt0 v2 98 hv (n := m) (by omega)
       have i6 := Bt0 v2 101 hv (n := m) (by omega)
       rw [q1] at i1; rw [q2] at i2; rw [q3] at i3; rw [q4] at i4; rw [q5] at i5; rw [q6] at i6
       have gj1 := Ch8 i3 i4 i5 i6 gj2'
       simp only [i1, i2, g1, g1', gj1, Option.bind_some]
       have hN : B8 x.Name = true → decide (x.Name = (⟨#[]⟩ : ByteArray)) = false := fun h => decide_eq_false fun e => by rw [e, Br0] at h; cases h
       have hS : B8 x.Src = true → decide (x.Src = (⟨#[]⟩ : ByteArray)) = false := fun h => decide_eq_false fun e => by rw [e, Br0] at h; cases h
       have ecols : (((coO x.Op == decide (0 < x.Cols.length)) && decide (x.Cols.length ≤ 8)) && (x.Cols.all B8 && decide x.Cols.Nodup)) = Nm (coO x.Op) x.Cols := by
         unfold Nm
         cases coO x.Op
         · by_cases h : x.Cols.length = 0
           · have : x.Cols = [] := List.eq_nil_of_length_eq_zero h
             simp [this]
           · have : 0 < x.Cols.length := by omega
             simp [h, this]
         · by_cases h : 0 < x.Cols.length
           · have : 1 ≤ x.Cols.length := h
             simp [h, this]
           · have : ¬ 1 ≤ x.Cols.length := h
             simp [h, this]
       have enum : ((nuO x.Op || decide (x.N = 0)) && (decide (0 ≤ x.N) && decide (x.N ≤ 1000))) = Ao3 (nuO x.Op) x.N := by
         unfold Ao3
         cases nuO x.Op
         · by_cases h : x.N = 0
           · simp [h]
           · simp [h]
         · simp
       have hshape : Fx x = (Bp1 (nmO x.Op) x.Name && (Bp1 (srO x.Op) x.Src && (Nm (coO x.Op) x.Cols && (Ao3 (nuO x.Op) x.N && (Ao4 x.Op x && Sa (boO x.Op) (otO x.Op) x))))) := by simp [Fx, hop]
       rw [hshape, ← ecols, ← enum]
       unfold Bp1
       generalize B8 x.Name = a1 at *
       generalize B8 x.Src = a2 at *
       generalize decide (x.Name = (⟨#[]⟩ : ByteArray)) = a3 at *
       generalize decide (x.Src = (⟨#[]⟩ : ByteArray)) = a4 at *
       generalize ((coO x.Op == decide (0 < x.Cols.length)) && decide (x.Cols.length ≤ 8)) = a5
       generalize ((nuO x.Op || decide (x.N = 0)) && (decide (0 ≤ x.N) && decide (x.N ≤ 1000))) = a6
       generalize Sa (boO x.Op) (otO x.Op) x = a7
       generalize (x.Cols.all B8 && decide x.Cols.Nodup) = a8
       generalize Ao4 x.Op x = a9
       generalize (x.Exprs.all okE && (x.Body.all okS && x.Else.all okS)) = a10
       have fold : (a5 && (a6 && (a7 && (a8 && (a9 && a10))))) = ((a5 && a8) && (a6 && (a9 && a7)) && a10) := by
         cases a5 <;> cases a6 <;> cases a7 <;> cases a8 <;> cases a9 <;> cases a10 <;> rfl
       rw [fold]
       generalize ((a5 && a8) && (a6 && (a9 && a7))) = b1
       cases nmO x.Op <;> cases srO x.Op <;> cases a1 <;> cases a2 <;> cases a3 <;> cases a4 <;> simp at hN hS ⊢
     have cases10 : x.Op = 1 ∨ x.Op = 2 ∨ x.Op = 3 ∨ x.Op = 4 ∨ x.Op = 5 ∨ x.Op = 6 ∨ x.Op = 7 ∨ x.Op = 8 ∨ x.Op = 9 ∨ x.Op = 10 := by omega
     rcases cases10 with o | o | o | o | o | o | o | o | o | o
     all_goals (rw [o] at fin ⊢)
     · exact fin ⟨#[110]⟩ (by decide) (by decide) (by decide) (by decide) (by decide) (by decide) (by decide)
     · exact fin ⟨#[110]⟩ (by decide) (by decide) (by decide) (by decide) (by decide) (by decide) (by decide)
     · exact fin ⟨#[115]⟩ (by decide) (by decide) (by decide) (by decide) (by decide) (by decide) (by decide)
     · exact fin ⟨#[110, 115, 99]⟩ (by decide) (by decide) (by decide) (by decide) (by decide) (by decide) (by decide)
     · exact fin ⟨#[110, 115]⟩ (by decide) (by decide) (by decide) (by decide) (by decide) (by decide) (by decide)
     · exact fin ⟨#[110, 115, 78, 98]⟩ (by decide) (by decide) (by decide) (by decide) (by decide) (by decide) (by decide)
     · exact fin ⟨#[98, 101]⟩ (by decide) (by decide) (by decide) (by decide) (by decide) (by decide) (by decide)
     · exact fin ⟨#[115]⟩ (by decide) (by decide) (by decide) (by decide) (by decide) (by decide) (by decide)
     · exact fin ⟨#[]⟩ (by decide) (by decide) (by decide) (by decide) (by decide) (by decide) (by decide)
     · exact fin ⟨#[]⟩ (by decide) (by decide) (by decide) (by decide) (by decide) (by decide) (by decide)
   · have : Fx x = false := by simp [Fx, hop]
     rw [this, Bool.false_and]
     by_cases o1 : x.Op < 1
     · simp [o1, H8]
     · have o2 : 10 < x.Op := by omega
       simp [o1, o2, H8]
theorem Bt7 {l : List TS} (hl : l.length ≤ 100) (h : ∀ x, x ∈ l → LimS x) : Ev (fun n => Di n l) (l.all okS) := by
 obtain ⟨N, g⟩ := Ev.all (l := l) (f := fun n a => Fv n a) (r := okS) (fun a ha => Bz0 (h a ha))
 exact ⟨N + 103, XO hl g⟩
end Go.Ax
namespace Go.Ax
def Tg (c : T_api_Column) : Bool := decide (1 ≤ c.Kind) && decide (c.Kind ≤ 3)
def Bh3 (p : TP) (names : List ByteArray) : Bool :=
 bif decide (p.From = (⟨#[]⟩ : ByteArray)) then decide (p.At = (⟨#[]⟩ : ByteArray)) || names.any (fun x => decide (p.At = x)) else B8 p.From && (decide (names.length = 0) && decide (p.At = (⟨#[]⟩ : ByteArray)))
def BU6 (p : TP) (names : List ByteArray) : Bool :=
 B8 p.Name && (decide (names.length ≤ 8) && (names.all B8 && (decide names.Nodup && ((decide (1 ≤ p.Fuel) && decide (p.Fuel ≤ 2000)) && Bh3 p names))))
def As9 (p : TP) : Bool := p.Params.all Tg && BU6 p (p.Params.map (·.Name))
theorem Ca5 (p : TP) (hp : p.Params.length ≤ 12) : Ev (fun n => WI n p) (As9 p) := by
 obtain ⟨N1, h1⟩ := R3 [p.Name] (by simp)
 obtain ⟨N2, h2⟩ := R3 [p.From] (by simp)
 obtain ⟨N3, h3⟩ := R3 (p.Params.map (·.Name)) (by simp [Ub]; omega)
 refine ⟨N1 + N2 + N3 + 20, fun n hn => ?_⟩
 have h1 := h1 n (by omega)
 have h2 := h2 n (by omega)
 have h3 := h3 n (by omega)
 simp only [List.all_cons, List.all_nil, Bool.and_true] at h1 h2 h3
 show WI n p = _
 unfold WI
 have := CT (l := p.Params) (F := fun m s v => Fm p n m s v) (g := fun s _ c => if Tg c = true then (match MM 16 s [c.Name] with | some s' => .inr s' | none => .inl none) else .inl (some false))
   (fin := fun s => (Gt n ([p.Name])).bind fun v6 => (bif (!v6) then (GU p n s true) else (GU p n s (decide ((8 : Int) < (s.length : Int))))))
   (fun m i c s hc => by
     have hlt := Cs hc
     show Fm p n (m + 1) s (i : Int) = _
     rw [Fm, RG, BC, hc]
     have h1 : (i : Int) < (p.Params.length : Int) := by omega
     have hk : CY c.Kind 1 3 = Tg c := by unfold CY Tg; cases decide ((1 : Int) ≤ c.Kind) <;> rfl
     simp only [h1, decide_true, cond_true, Option.bind_some, hk]
     cases Tg c
     · rfl
     · simp only [Bool.not_true, cond_false, if_true]
       cases MM 16 s [c.Name] with
       | none => rfl
       | some s' => simp only [Option.bind_some]; rw [Bk (by omega)])
   (fun m s => by
     show Fm p n (m + 1) s _ = _
     rw [Fm, RG]; simp) (m := n) (by omega) []
 rw [this]
 have key : ∀ (r : List T_api_Column) (fin : List ByteArray → Option Bool) (s : List ByteArray) (i : Nat), s.length + r.length ≤ 12 → ID (fun s _ c => if Tg c = true then (match MM 16 s [c.Name] with | some s' => .inr s' | none => .inl none) else .inl (some false)) fin r i s = if r.all Tg = true then fin (s ++ r.map (·.Name)) else some false := by
   intro r fin
   induction r with
   | nil => intro s i _; simp [ID]
   | cons c r ih =>
     intro s i hs
     rw [ID]
     simp only [List.length_cons] at hs
     have ha : MM 16 s [c.Name] = some (s ++ [c.Name]) := by unfold MM; rw [if_pos (by simp; omega)]
     cases hk : Tg c
     · simp [hk]
     · simp only [if_true, ha, List.all_cons, hk, Bool.true_and]
       rw [ih _ _ (by simp; omega)]
       simp
 rw [key _ _ _ _ (by simpa using hp)]
 unfold As9
 cases p.Params.all Tg
 · rfl
 simp only [if_true, List.nil_append, Bool.true_and]
 have hlen : (p.Params.map (·.Name)).length ≤ 12 := by simpa using hp
 generalize p.Params.map (·.Name) = names at *
 have hu : TW names = some (decide names.Nodup) := by unfold TW; rw [if_pos (by omega)]
 have hc := AV9 p.At (l := names) (n := n) (by omega) (by unfold Ub; omega)
 have hw : CY p.Fuel 1 2000 = (decide (1 ≤ p.Fuel) && decide (p.Fuel ≤ 2000)) := by
   unfold CY; cases decide (1 ≤ p.Fuel) <;> rfl
 have d1 : decide ((names.length : Int) = 0) = decide (names.length = 0) := by rw [decide_eq_decide]; omega
 have d2 : decide ((8 : Int) < (names.length : Int)) = !decide (names.length ≤ 8) := by rw [Bool.eq_iff_iff, decide_eq_true_iff, Bool.not_eq_true', decide_eq_false_iff_not]; omega
 have J0 : ∀ t, Ky p n names t = some (!t && Bh3 p names) := fun t => by
   simp only [Ky, Ks, h2, hc, d1, Option.bind_some, Bh3]
   generalize (names.any fun x => decide (p.At = x)) = a1
   cases t <;> cases decide (p.From = (⟨#[]⟩ : ByteArray)) <;> cases B8 p.From <;> cases decide (names.length = 0) <;> cases decide (p.At = (⟨#[]⟩ : ByteArray)) <;> simp
 have J4 : ∀ t, KE p n names t = some (!t && ((decide (1 ≤ p.Fuel) && decide (p.Fuel ≤ 2000)) && Bh3 p names)) := fun t => by
   rw [KE, J0, J0, hw]; cases t <;> simp
 have J3 : ∀ t, JZ p n names t = some (!t && (decide names.Nodup && ((decide (1 ≤ p.Fuel) && decide (p.Fuel ≤ 2000)) && Bh3 p names))) := fun t => by
   rw [JZ, J4, hu]; simp only [Option.bind_some, J4]; cases t <;> simp
 have J2 : ∀ t, GU p n names t = some (!t && (names.all B8 && (decide names.Nodup && ((decide (1 ≤ p.Fuel) && decide (p.Fuel ≤ 2000)) && Bh3 p names)))) := fun t => by
   rw [GU, J3, h3]; simp only [Option.bind_some, J3]; cases t <;> simp
 rw [h1]
 simp only [Option.bind_some, J2, d2, BU6]
 cases B8 p.Name <;> simp
theorem BE0 (p : TP) (hp : p.Params.length ≤ 12) : Ev (fun n => Vx n p) (As9 p) := by
 obtain ⟨N1, h1⟩ := G7 p.Name
 obtain ⟨N2, h2⟩ := G7 p.From
 obtain ⟨N3, h3⟩ := Ev.all (l := p.Params) (f := fun n c => EE n c.Name) (r := fun c => B8 c.Name) (fun c _ => G7 c.Name)
 refine ⟨N1 + N2 + N3 + 20, fun n hn => ?_⟩
 have h1 := h1 n (by omega)
 have h2 := h2 n (by omega)
 have h3 := h3 n (by omega)
 simp only at h1 h2
 show Vx n p = _
 unfold Vx
 have inner : ∀ (i : Nat) (c : T_api_Column) (rec : Bool → Int → Option Bool) (v : Bool), p.Params[i]? = some c → EM p (i : Int) rec v n 0 = if ((p.Params.take i).any fun y => decide (y.Name = c.Name)) = true then some false else rec v ((i + 1 : Nat) : Int) := by
   intro i c rec v hc
   have hi := Cs hc
   have hlen : (p.Params.take i).length = i := by rw [List.length_take]; omega
   have := CT (l := p.Params.take i) (F := fun m (_ : Unit) w => EM p (i : Int) rec v m w) (g := fun _ _ y => if decide (y.Name = c.Name) then .inl (some false) else .inr ()) (fin := fun _ => rec v ((i + 1 : Nat) : Int))
     (fun m k y u hy => by
       have hlt := Cs hy
       have hy' : p.Params[k]? = some y := by rw [List.getElem?_take] at hy; split at hy <;> first | exact hy | cases hy
       show EM p (i : Int) rec v (m + 1) (k : Int) = _
       rw [EM, QA, BC, BC, hy', hc]
       have h1 : (k : Int) < (i : Int) := by omega
       simp only [h1, decide_true, cond_true, Option.bind_some]
       cases decide (y.Name = c.Name)
       · simp only [cond_false, Bool.false_eq_true, if_false]; rw [Bk (by omega)]
       · rfl)
     (fun m u => by
       show EM p (i : Int) rec v (m + 1) _ = _
       rw [EM, QA, hlen]
       simp only [Int.lt_irrefl, decide_false, cond_false]
       rw [Bk (by omega)]) (m := n) (by omega) ()
   rw [this, Ae2]
 have := CT (l := p.Params) (F := fun m s v => Fl p n m s v) (g := fun s i c => if (B8 c.Name && (Tg c && !((p.Params.take i).any fun y => decide (y.Name = c.Name)))) = true then .inr (s || decide (p.At = c.Name)) else .inl (some false))
   (fin := fun s => Nh p n s)
   (fun m i c s hc => by
     have hlt := Cs hc
     show Fl p n (m + 1) s (i : Int) = _
     rw [Fl, Rm, BC, hc]
     have h1 : (i : Int) < (p.Params.length : Int) := by omega
     have e1 : decide (c.Kind < 1) = !decide (1 ≤ c.Kind) := by rw [Bool.eq_iff_iff, decide_eq_true_iff, Bool.not_eq_true', decide_eq_false_iff_not]; omega
     have e2 : decide ((3 : Int) < c.Kind) = !decide (c.Kind ≤ 3) := by rw [Bool.eq_iff_iff, decide_eq_true_iff, Bool.not_eq_true', decide_eq_false_iff_not]; omega
     simp only [h1, decide_true, cond_true, Option.bind_some, h3 c (List.mem_of_getElem? hc), MY, Na, Ns, BC, hc, e1, e2, inner i c _ _ hc, Tg]
     by_cases hk1 : 1 ≤ c.Kind <;> by_cases hk2 : c.Kind ≤ 3 <;> cases B8 c.Name <;> cases s <;> cases ((p.Params.take i).any fun y => decide (y.Name = c.Name)) <;> simp [hk1, hk2])
   (fun m s => by
     show Fl p n (m + 1) s _ = _
     rw [Fl, Rm]; simp) (m := n) (by omega) (decide (p.At = (⟨#[]⟩ : ByteArray)))
 rw [this]
 have key : ∀ (r pre : List T_api_Column) (fin : Bool → Option Bool) (s : Bool) (i : Nat), p.Params = pre ++ r → pre.length = i → ID (fun s i c => if (B8 c.Name && (Tg c && !((p.Params.take i).any fun y => decide (y.Name = c.Name)))) = true then .inr (s || decide (p.At = c.Name)) else .inl (some false)) fin r i s =
     if (r.all Tg && ((r.map (·.Name)).all B8 && GA (pre.map (·.Name)) (r.map (·.Name)))) = true then fin (s || (r.map (·.Name)).any fun x => decide (p.At = x)) else some false := by
   intro r
   induction r with
   | nil => intro pre fin s i _ _; simp [ID, GA]
   | cons c r ih =>
     intro pre fin s i he hi
     have htake : p.Params.take i = pre := by rw [he, ← hi, List.take_left]
     have hany : (pre.any fun y => decide (y.Name = c.Name)) = ((pre.map (·.Name)).any fun y => decide (y = c.Name)) := by rw [List.any_map]; rfl
     rw [ID, htake, List.map_cons, List.all_cons, List.all_cons, GA, hany]
     cases B8 c.Name
     · simp
     · cases Tg c
       · simp
       · cases ((pre.map (·.Name)).any fun y => decide (y = c.Name))
         · simp only [Bool.not_false, Bool.and_self, if_true, Bool.true_and]
           rw [ih (pre ++ [c]) fin _ _ (by rw [he]; simp) (by simp [hi])]
           simp only [List.map_append, List.map_cons, List.map_nil, List.any_cons, Bool.or_assoc]
         · simp
 rw [key p.Params [] _ _ 0 (by simp) rfl]
 simp only [List.map_nil, Ar2, As9]
 have hlen : (p.Params.map (·.Name)).length = p.Params.length := by simp
 have d1 : decide ((p.Params.length : Int) ≤ 8) = decide ((p.Params.map (·.Name)).length ≤ 8) := by rw [decide_eq_decide, hlen]; omega
 have d2 : decide ((0 : Int) < (p.Params.length : Int)) = !decide ((p.Params.map (·.Name)).length = 0) := by rw [Bool.eq_iff_iff, decide_eq_true_iff, Bool.not_eq_true', decide_eq_false_iff_not, hlen]; omega
 have d3 : (p.Params.map (·.Name)).length = 0 → ((p.Params.map (·.Name)).any fun x => decide (p.At = x)) = false := fun h => by rw [List.eq_nil_of_length_eq_zero h]; rfl
 simp only [Nh, MK, MR, MV, h1, h2, d1, d2, Option.bind_some, BU6, Bh3]
 generalize p.Params.map (·.Name) = names at *
 generalize p.Params.all Tg = a1
 generalize names.all B8 = a2
 generalize decide names.Nodup = a3
 have d3' : decide (names.length = 0) = true → (names.any fun x => decide (p.At = x)) = false := fun h => d3 (of_decide_eq_true h)
 generalize (names.any fun x => decide (p.At = x)) = a4 at *
 generalize decide (names.length = 0) = a5 at *
 generalize decide (names.length ≤ 8) = a6
 generalize decide (1 ≤ p.Fuel) = a7
 generalize decide (p.Fuel ≤ 2000) = a8
 generalize B8 p.Name = a9
 generalize B8 p.From = a10
 generalize decide (p.From = (⟨#[]⟩ : ByteArray)) = a11
 generalize decide (p.At = (⟨#[]⟩ : ByteArray)) = a12
 clear this key inner h1 h2 h3 hn d1 d2 d3 hlen hp
 cases a1 <;> cases a2 <;> cases a3 <;> simp
 cases a11 <;> cases a10 <;> cases a9 <;> cases a6 <;> cases a5 <;> cases a4 <;> simp at d3' ⊢ <;> cases a12 <;> cases a7 <;> simp
end Go.Ax
namespace Go.Ax
def CB {α : Type} (N : α → Nat) : List α → Nat
 | [] => 0
 | x :: r => N x + CB N r
def BZ {α : Type} (D : α → Nat) : List α → Nat
 | [] => 0
 | x :: r => max (D x) (BZ D r)
theorem BB9 {α : Type} (N : α → Nat) : ∀ a b : List α, CB N (a ++ b) = CB N a + CB N b
 | [], b => by simp [CB]
 | x :: a, b => by simp [CB, BB9 N a b]; omega
theorem BB2 {α : Type} (D : α → Nat) : ∀ a b : List α, BZ D (a ++ b) = max (BZ D a) (BZ D b)
 | [], b => by simp [BZ]
 | x :: a, b => by simp [BZ, BB2 D a b] <;> omega
theorem An3 {α : Type} (D : α → Nat) {x : α} : ∀ {l : List α}, x ∈ l → D x ≤ BZ D l
 | y :: l, h => by
   rw [BZ]
   rcases List.mem_cons.1 h with h | h
   · subst h; omega
   · have := An3 D h; omega
def Sz (s : T_Ssize) (N D : Nat) : Prop := (N < 1000 → s.nodes = N ∧ s.depth = D) ∧ (1000 ≤ N → s.nodes = 1000 ∧ 0 ≤ s.depth ∧ s.depth ≤ 1000)
theorem Sz.zero : Sz ⟨(0 : Int), (0 : Int)⟩ 0 0 := ⟨fun _ => ⟨rfl, rfl⟩, fun h => by omega⟩
theorem Sz.big {N D : Nat} (h : 1000 ≤ N) : Sz ⟨(1000 : Int), (1000 : Int)⟩ N D := ⟨fun h' => by omega, fun _ => ⟨rfl, by decide, by decide⟩⟩
theorem Ay8 {s : T_Ssize} {N D : Nat} (hd : D ≤ 900) (h : Sz s N D) : Ca s = decide (1000 ≤ N) := by
 unfold Ca
 by_cases hN : N < 1000
 · obtain ⟨h1, h2⟩ := h.1 hN
   have e1 : ¬ (1000 : Int) ≤ s.nodes := by omega
   have e2 : ¬ (1000 : Int) ≤ s.depth := by omega
   have e3 : ¬ 1000 ≤ N := by omega
   simp [e1, e2, e3]
 · obtain ⟨h1, h2⟩ := h.2 (by omega)
   have e3 : 1000 ≤ N := by omega
   simp [h1, e3]
theorem Sz.bd {s : T_Ssize} {N D : Nat} (hd : D ≤ 900) (h : Sz s N D) : 0 ≤ s.nodes ∧ s.nodes ≤ 1000 ∧ 0 ≤ s.depth ∧ s.depth ≤ 1000 := by
 by_cases hN : N < 1000
 · obtain ⟨h1, h2⟩ := h.1 hN; omega
 · obtain ⟨h1, h2⟩ := h.2 (by omega); omega
theorem Sz.add {s t : T_Ssize} {N D N' D' : Nat} (h : Sz s N D) (k : Sz t N' D') (hd : D ≤ 900) (hd' : D' ≤ 900) : Sz (A0 s t) (N + N') (max D D') := by
 have b1 := h.bd hd
 have b2 := k.bd hd'
 have hw : IntKind.wrap .i64 (s.nodes + t.nodes) = s.nodes + t.nodes := EH (by omega) (by omega)
 refine ⟨fun hlt => ?_, fun hge => ?_⟩
 · obtain ⟨h1, h2⟩ := h.1 (by omega)
   obtain ⟨k1, k2⟩ := k.1 (by omega)
   simp only [A0, hw]
   omega
 · simp only [A0, hw]
   have hn : 1000 ≤ s.nodes + t.nodes := by
     by_cases hN : N < 1000
     · by_cases hN' : N' < 1000
       · have := (h.1 hN).1; have := (k.1 hN').1; omega
       · have := (k.2 (by omega)).1; omega
     · have := (h.2 (by omega)).1; omega
   omega
theorem Sz.over {s : T_Ssize} {N D : Nat} (h : Sz s N D) (hd : D ≤ 899) : Sz (Lf s) (N + 1) (D + 1) := by
 have b1 := h.bd (by omega)
 have hw : IntKind.wrap .i64 (s.nodes + 1) = s.nodes + 1 := EH (by omega) (by omega)
 have hw2 : IntKind.wrap .i64 (s.depth + 1) = s.depth + 1 := EH (by omega) (by omega)
 refine ⟨fun hlt => ?_, fun hge => ?_⟩
 · obtain ⟨h1, h2⟩ := h.1 (by omega)
   simp only [Lf, hw, hw2]
   omega
 · simp only [Lf, hw, hw2]
   have : 999 ≤ s.nodes := by
     by_cases hN : N < 1000
     · have := (h.1 hN).1; omega
     · have := (h.2 (by omega)).1; omega
   omega
theorem YP {n : Nat} {l : List TE} {a : Nat} (ha : a < 1000) {fn2 : TE → Int → Option T_Ssize} {N D : TE → Nat} (hf : ∀ x, x ∈ l → D x ≤ 900 ∧ ∃ s, fn2 x (a : Int) = some s ∧ Sz s (N x) (D x)) (hl : l.length ≤ 100) (hn : 100 < n) :
   ∃ s, FM n l (a : Int) fn2 = some s ∧ Sz s (CB N l) (BZ D l) := by
 unfold FM
 have := CT (l := l) (F := fun m (s : Int × Int) v => B1 l (a : Int) fn2 m s.1 s.2 v)
   (g := fun s _ x => if Ca ⟨s.1, s.2⟩ = true then .inl (some ⟨1000, 1000⟩) else (match fn2 x (a : Int) with | some t => .inr ((A0 ⟨s.1, s.2⟩ t).nodes, (A0 ⟨s.1, s.2⟩ t).depth) | none => .inl none)) (fin := fun s => some ⟨s.1, s.2⟩)
   (fun m i x s hx => by
     have hlt := Cs hx
     show B1 l (a : Int) fn2 (m + 1) s.1 s.2 (i : Int) = _
     rw [B1, Gs, BC, hx]
     have h1 : (i : Int) < (l.length : Int) := by omega
     have h2 : ¬ (1000 : Int) ≤ (a : Int) := by omega
     simp only [h1, h2, decide_true, decide_false, cond_true, Option.bind_some, Fy]
     cases Ca ⟨s.1, s.2⟩
     · simp only [cond_false, Bool.false_eq_true, if_false]
       cases fn2 x (a : Int) with
       | none => rfl
       | some t => simp only [Option.bind_some]; rw [Bk (by omega)]
     · rfl)
   (fun m s => by
     show B1 l (a : Int) fn2 (m + 1) s.1 s.2 _ = _
     rw [B1, Gs]; simp) (m := n) (by omega) ((0 : Int), (0 : Int))
 rw [this]
 have key : ∀ (r : List TE) (s : Int × Int) (i N0 D0 : Nat), (∀ x, x ∈ r → D x ≤ 900 ∧ ∃ s, fn2 x (a : Int) = some s ∧ Sz s (N x) (D x)) → D0 ≤ 900 → Sz ⟨s.1, s.2⟩ N0 D0 →
     ∃ t, ID (fun s _ x => if Ca ⟨s.1, s.2⟩ = true then .inl (some ⟨1000, 1000⟩) else (match fn2 x (a : Int) with | some t => .inr ((A0 ⟨s.1, s.2⟩ t).nodes, (A0 ⟨s.1, s.2⟩ t).depth) | none => .inl none)) (fun s => some ⟨s.1, s.2⟩) r i s = some t ∧ Sz t (N0 + CB N r) (max D0 (BZ D r)) := by
   intro r
   induction r with
   | nil => intro s i N0 D0 _ _ hs; exact ⟨_, rfl, by simpa [CB, BZ] using hs⟩
   | cons x r ih =>
     intro s i N0 D0 hr hd hs
     rw [ID]
     obtain ⟨hdx, t, ht, hz⟩ := hr x (by simp)
     by_cases hfull : 1000 ≤ N0
     · have : Ca ⟨s.1, s.2⟩ = true := by rw [Ay8 hd hs]; simp [hfull]
       simp only [this, if_true]
       exact ⟨_, rfl, Sz.big (by omega)⟩
     · have : Ca ⟨s.1, s.2⟩ = false := by rw [Ay8 hd hs]; simp [hfull]
       simp only [this, Bool.false_eq_true, if_false, ht]
       obtain ⟨u, hu, hz2⟩ := ih ((A0 ⟨s.1, s.2⟩ t).nodes, (A0 ⟨s.1, s.2⟩ t).depth) (i + 1) (N0 + N x) (max D0 (D x)) (fun y hy => hr y (by simp [hy])) (by omega) (hs.add hz hd hdx)
       refine ⟨u, hu, ?_⟩
       simpa [CB, BZ, Nat.add_assoc, Nat.max_assoc] using hz2
 obtain ⟨t, ht, hz⟩ := key l ((0 : Int), (0 : Int)) 0 0 0 hf (by omega) Sz.zero
 exact ⟨t, ht, by simpa using hz⟩
theorem NK {n : Nat} {l : List TS} {a : Nat} (ha : a < 1000) {fn2 : TS → Int → Option T_Ssize} {N D : TS → Nat} (hf : ∀ x, x ∈ l → D x ≤ 900 ∧ ∃ s, fn2 x (a : Int) = some s ∧ Sz s (N x) (D x)) (hl : l.length ≤ 100) (hn : 100 < n) :
   ∃ s, DP n l (a : Int) fn2 = some s ∧ Sz s (CB N l) (BZ D l) := by
 unfold DP
 have := CT (l := l) (F := fun m (s : Int × Int) v => B0 l (a : Int) fn2 m s.1 s.2 v)
   (g := fun s _ x => if Ca ⟨s.1, s.2⟩ = true then .inl (some ⟨1000, 1000⟩) else (match fn2 x (a : Int) with | some t => .inr ((A0 ⟨s.1, s.2⟩ t).nodes, (A0 ⟨s.1, s.2⟩ t).depth) | none => .inl none)) (fin := fun s => some ⟨s.1, s.2⟩)
   (fun m i x s hx => by
     have hlt := Cs hx
     show B0 l (a : Int) fn2 (m + 1) s.1 s.2 (i : Int) = _
     rw [B0, Gq, BC, hx]
     have h1 : (i : Int) < (l.length : Int) := by omega
     have h2 : ¬ (1000 : Int) ≤ (a : Int) := by omega
     simp only [h1, h2, decide_true, decide_false, cond_true, Option.bind_some, FB]
     cases Ca ⟨s.1, s.2⟩
     · simp only [cond_false, Bool.false_eq_true, if_false]
       cases fn2 x (a : Int) with
       | none => rfl
       | some t => simp only [Option.bind_some]; rw [Bk (by omega)]
     · rfl)
   (fun m s => by
     show B0 l (a : Int) fn2 (m + 1) s.1 s.2 _ = _
     rw [B0, Gq]; simp) (m := n) (by omega) ((0 : Int), (0 : Int))
 rw [this]
 have key : ∀ (r : List TS) (s : Int × Int) (i N0 D0 : Nat), (∀ x, x ∈ r → D x ≤ 900 ∧ ∃ s, fn2 x (a : Int) = some s ∧ Sz s (N x) (D x)) → D0 ≤ 900 → Sz ⟨s.1, s.2⟩ N0 D0 →
     ∃ t, ID (fun s _ x => if Ca ⟨s.1, s.2⟩ = true then .inl (some ⟨1000, 1000⟩) else (match fn2 x (a : Int) with | some t => .inr ((A0 ⟨s.1, s.2⟩ t).nodes, (A0 ⟨s.1, s.2⟩ t).depth) | none => .inl none)) (fun s => some ⟨s.1, s.2⟩) r i s = some t ∧ Sz t (N0 + CB N r) (max D0 (BZ D r)) := by
   intro r
   induction r with
   | nil => intro s i N0 D0 _ _ hs; exact ⟨_, rfl, by simpa [CB, BZ] using hs⟩
   | cons x r ih =>
     intro s i N0 D0 hr hd hs
     rw [ID]
     obtain ⟨hdx, t, ht, hz⟩ := hr x (by simp)
     by_cases hfull : 1000 ≤ N0
     · have : Ca ⟨s.1, s.2⟩ = true := by rw [Ay8 hd hs]; simp [hfull]
       simp only [this, if_true]
       exact ⟨_, rfl, Sz.big (by omega)⟩
     · have : Ca ⟨s.1, s.2⟩ = false := by rw [Ay8 hd hs]; simp [hfull]
       simp only [this, Bool.false_eq_true, if_false, ht]
       obtain ⟨u, hu, hz2⟩ := ih ((A0 ⟨s.1, s.2⟩ t).nodes, (A0 ⟨s.1, s.2⟩ t).depth) (i + 1) (N0 + N x) (max D0 (D x)) (fun y hy => hr y (by simp [hy])) (by omega) (hs.add hz hd hdx)
       refine ⟨u, hu, ?_⟩
       simpa [CB, BZ, Nat.add_assoc, Nat.max_assoc] using hz2
 obtain ⟨t, ht, hz⟩ := key l ((0 : Int), (0 : Int)) 0 0 0 hf (by omega) Sz.zero
 exact ⟨t, ht, by simpa using hz⟩
mutual
def nE : TE → Nat
 | ⟨_, _, _, _, _, args⟩ => nEs args + 1
def nEs : List TE → Nat
 | [] => 0
 | a :: l => nE a + nEs l
end
mutual
def dE : TE → Nat
 | ⟨_, _, _, _, _, args⟩ => dEs args + 1
def dEs : List TE → Nat
 | [] => 0
 | a :: l => max (dE a) (dEs l)
end
theorem BY7 : ∀ l, nEs l = CB nE l
 | [] => rfl
 | a :: l => by rw [nEs, BY7 l]; rfl
theorem BV4 : ∀ l, dEs l = BZ dE l
 | [] => rfl
 | a :: l => by rw [dEs, BV4 l]; rfl
theorem Ca9 (e : TE) : nE e = CB nE e.Args + 1 := by cases e; rw [nE, BY7]
theorem BC4 (e : TE) : dE e = BZ dE e.Args + 1 := by cases e; rw [dE, BV4]
mutual
def nS : TS → Nat
 | ⟨_, _, _, _, _, exprs, body, els⟩ => CB nE exprs + (nSs body + nSs els) + 1
def nSs : List TS → Nat
 | [] => 0
 | a :: l => nS a + nSs l
end
mutual
def dS : TS → Nat
 | ⟨_, _, _, _, _, exprs, body, els⟩ => max (BZ dE exprs) (max (dSs body) (dSs els)) + 1
def dSs : List TS → Nat
 | [] => 0
 | a :: l => max (dS a) (dSs l)
end
theorem BI3 : ∀ l, nSs l = CB nS l
 | [] => rfl
 | a :: l => by rw [nSs, BI3 l]; rfl
theorem BL8 : ∀ l, dSs l = BZ dS l
 | [] => rfl
 | a :: l => by rw [dSs, BL8 l]; rfl
theorem BV6 (x : TS) : nS x = CB nE x.Exprs + (CB nS x.Body + CB nS x.Else) + 1 := by cases x; rw [nS, BI3, BI3]
theorem BF6 (x : TS) : dS x = max (BZ dE x.Exprs) (max (BZ dS x.Body) (BZ dS x.Else)) + 1 := by cases x; rw [dS, BL8, BL8]
theorem Nj {e : TE} (h : LimE e) : ∃ M, ∀ n, M ≤ n → ∀ a : Nat, a + dE e ≤ 900 → ∃ s, CV n e (a : Int) = some s ∧ Sz s (nE e) (dE e) := by
 induction h with
 | mk e hl hk ih =>
   have hall : ∃ M, ∀ x, x ∈ e.Args → ∀ n, M ≤ n → ∀ a : Nat, a + dE x ≤ 900 → ∃ s, CV n x (a : Int) = some s ∧ Sz s (nE x) (dE x) := bound_list (P := fun x n => ∀ a : Nat, a + dE x ≤ 900 → ∃ s, CV n x (a : Int) = some s ∧ Sz s (nE x) (dE x)) ih
   obtain ⟨M, hM⟩ := hall
   refine ⟨M + 102, fun n hn a ha => ?_⟩
   obtain ⟨m, rfl⟩ : ∃ m, n = m + 1 := ⟨n - 1, by omega⟩
   rw [BC4] at ha
   have hw : IntKind.wrap .i64 ((a : Int) + 1) = ((a + 1 : Nat) : Int) := Bk (by omega)
   rw [CV, MG, hw]
   obtain ⟨s, hs, hz⟩ := YP (n := m) (l := e.Args) (a := a + 1) (by omega) (fn2 := fun a0 a1 => CV m a0 a1) (N := nE) (D := dE) (fun x hx => by
     have := An3 dE hx
     exact ⟨by omega, hM x hx m (by omega) (a + 1) (by omega)⟩) (by omega) (by omega)
   rw [hs]
   exact ⟨_, rfl, by rw [Ca9, BC4]; exact hz.over (by omega)⟩
where
 bound_list {α : Type} {P : α → Nat → Prop} : ∀ {l : List α}, (∀ x, x ∈ l → ∃ M, ∀ n, M ≤ n → P x n) → ∃ M, ∀ x, x ∈ l → ∀ n, M ≤ n → P x n
   | [], _ => ⟨0, fun x hx => by cases hx⟩
   | a :: l, h => by
     obtain ⟨M1, h1⟩ := h a (by simp)
     obtain ⟨M2, h2⟩ := bound_list (l := l) fun x hx => h x (by simp [hx])
     refine ⟨max M1 M2, fun x hx n hn => ?_⟩
     rcases List.mem_cons.1 hx with e | e
     · subst e; exact h1 n (by omega)
     · exact h2 x e n (by omega)
theorem BC2 {x : TS} (h : LimS x) : ∃ M, ∀ n, M ≤ n → ∀ a : Nat, a + dS x ≤ 900 → ∃ s, Cr n x (a : Int) = some s ∧ Sz s (nS x) (dS x) := by
 induction h with
 | mk x h0 h1 h2 h3 he hb hc ihb ihc =>
   obtain ⟨M1, g1⟩ := Nj.bound_list (P := fun x n => ∀ a : Nat, a + dE x ≤ 900 → ∃ s, CV n x (a : Int) = some s ∧ Sz s (nE x) (dE x)) (l := x.Exprs) (fun e hm => Nj (he e hm))
   obtain ⟨M2, g2⟩ := Nj.bound_list (P := fun x n => ∀ a : Nat, a + dS x ≤ 900 → ∃ s, Cr n x (a : Int) = some s ∧ Sz s (nS x) (dS x)) ihb
   obtain ⟨M3, g3⟩ := Nj.bound_list (P := fun x n => ∀ a : Nat, a + dS x ≤ 900 → ∃ s, Cr n x (a : Int) = some s ∧ Sz s (nS x) (dS x)) ihc
   refine ⟨M1 + M2 + M3 + 102, fun n hn a ha => ?_⟩
   obtain ⟨m, rfl⟩ : ∃ m, n = m + 1 := ⟨n - 1, by omega⟩
   rw [BF6] at ha
   have hw : IntKind.wrap .i64 ((a : Int) + 1) = ((a + 1 : Nat) : Int) := Bk (by omega)
   rw [Cr, MD, hw]
   obtain ⟨s1, hs1, hz1⟩ := YP (n := m) (l := x.Exprs) (a := a + 1) (by omega) (fn2 := fun a0 a1 => CV m a0 a1) (N := nE) (D := dE) (fun y hy => by
     have := An3 dE hy
     exact ⟨by omega, g1 y hy m (by omega) (a + 1) (by omega)⟩) (by omega) (by omega)
   obtain ⟨s2, hs2, hz2⟩ := NK (n := m) (l := x.Body) (a := a + 1) (by omega) (fn2 := fun a0 a1 => Cr m a0 a1) (N := nS) (D := dS) (fun y hy => by
     have := An3 dS hy
     exact ⟨by omega, g2 y hy m (by omega) (a + 1) (by omega)⟩) (by omega) (by omega)
   obtain ⟨s3, hs3, hz3⟩ := NK (n := m) (l := x.Else) (a := a + 1) (by omega) (fn2 := fun a0 a1 => Cr m a0 a1) (N := nS) (D := dS) (fun y hy => by
     have := An3 dS hy
     exact ⟨by omega, g3 y hy m (by omega) (a + 1) (by omega)⟩) (by omega) (by omega)
   rw [hs1, Option.bind_some, hs2, Option.bind_some, hs3]
   refine ⟨_, rfl, ?_⟩
   have hz := ((hz1.add hz2 (by omega) (by omega)).add hz3 (by omega) (by omega)).over (by omega)
   rw [BV6, BF6, show max (BZ dE x.Exprs) (max (BZ dS x.Body) (BZ dS x.Else)) = max (max (BZ dE x.Exprs) (BZ dS x.Body)) (BZ dS x.Else) by omega, show CB nE x.Exprs + (CB nS x.Body + CB nS x.Else) = CB nE x.Exprs + CB nS x.Body + CB nS x.Else by omega]
   exact hz
def C6 (N D : Nat) : Int × Int := if 1000 ≤ N ∨ 1000 ≤ D then (1000, 1000) else ((N : Int), (D : Int))
theorem Cb7 {l : List TS} (hl : l.length ≤ 100) (h : ∀ x, x ∈ l → LimS x) (hd : BZ dS l ≤ 900) : ∃ M, ∀ n, M ≤ n → ∃ s, DP n l (0 : Int) (fun (a0 : TS) (a1 : Int) => Cr n a0 a1) = some s ∧ Sz s (CB nS l) (BZ dS l) := by
 obtain ⟨M, g⟩ := Nj.bound_list (P := fun x n => ∀ a : Nat, a + dS x ≤ 900 → ∃ s, Cr n x (a : Int) = some s ∧ Sz s (nS x) (dS x)) (fun x hx => BC2 (h x hx))
 refine ⟨M + 102, fun n hn => ?_⟩
 exact NK (n := n) (l := l) (a := 0) (by omega) (fn2 := fun a0 a1 => Cr n a0 a1) (N := nS) (D := dS) (fun y hy => by
     have := An3 dS hy
     exact ⟨by omega, g y hy n (by omega) 0 (by omega)⟩) (by omega) (by omega)
theorem BW6 {s : T_Ssize} {N D : Nat} (h : Sz s N D) (hd : D ≤ 900) : HG s = decide (N ≤ 300 ∧ D ≤ 12) := by
 unfold HG
 by_cases hN : N < 1000
 · obtain ⟨h1, h2⟩ := h.1 hN
   rw [h1, h2]
   by_cases a : N ≤ 300
   · have : (N : Int) ≤ 300 := by omega
     by_cases b : D ≤ 12
     · have : (D : Int) ≤ 12 := by omega
       simp [*]
     · have : ¬ (D : Int) ≤ 12 := by omega
       simp [*]
   · have : ¬ (N : Int) ≤ 300 := by omega
     simp [*]
 · have := (h.2 (by omega)).1
   have h3 : ¬ N ≤ 300 := by omega
   simp [this, h3]
def AP4 (p : TP) : Bool := As9 p && (decide (CB nS p.Body ≤ 300 ∧ BZ dS p.Body ≤ 12) && p.Body.all okS)
theorem Ca2 {p : TP} (hp : p.Params.length ≤ 12) (hl : p.Body.length ≤ 100) (h : ∀ x, x ∈ p.Body → LimS x) (hd : BZ dS p.Body ≤ 900) : Ev (fun n => WG n p) (AP4 p) := by
 obtain ⟨M, g⟩ := Cb7 hl h hd
 obtain ⟨N1, h1⟩ := Ca5 p hp
 obtain ⟨N2, h2⟩ := BS2 hl h
 refine ⟨M + N1 + N2, fun n hn => ?_⟩
 obtain ⟨s, hs, hz⟩ := g n (by omega)
 have h1 := h1 n (by omega)
 have h2 := h2 n (by omega)
 simp only at h1 h2
 show WG n p = _
 rw [WG, hs, Option.bind_some, h1, Option.bind_some, BW6 hz hd]
 simp only [Nn, h2, Option.bind_some, AP4]
 cases As9 p <;> cases decide (CB nS p.Body ≤ 300 ∧ BZ dS p.Body ≤ 12) <;> rfl
end Go.Ax
