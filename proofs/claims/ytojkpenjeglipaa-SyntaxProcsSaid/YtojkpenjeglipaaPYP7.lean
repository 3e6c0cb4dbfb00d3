import Derived.Test.YtojkpenjeglipaaPAxP
import Derived.Test.YtojkpenjeglipaaPYD1
import Derived.Test.YtojkpenjeglipaaPYD0
import Derived.Test.YtojkpenjeglipaaPYD10
import Derived.Test.YtojkpenjeglipaaPYD11
import Derived.Test.YtojkpenjeglipaaPYD2
import Derived.Test.YtojkpenjeglipaaPYD5
import Derived.Test.YtojkpenjeglipaaPYD6
import Derived.Test.YtojkpenjeglipaaPYD7
import Derived.Test.YtojkpenjeglipaaPYD12
import Derived.Test.YtojkpenjeglipaaPYD14
import Derived.Test.YtojkpenjeglipaaPYD15
import Derived.Test.YtojkpenjeglipaaPYD16
import Derived.Test.YtojkpenjeglipaaPYD3
import Derived.Test.YtojkpenjeglipaaPYD4
set_option linter.unusedVariables false
set_option linter.unusedSimpArgs false
namespace Go.Ax
attribute [local simp] Bool.cond_decide
abbrev MI {α : Type} (l : List α) : Prop := l.length ≤ 9223372036854775807
def KK (s : ByteArray) : Bool := decide (s.size ≠ 0) && (decide (s.size ≤ 16) && ((match Ec s with | [] => false | c :: _ => Cv c) && (Ec s).all Cz))
theorem Th {α : Type} (p : α → Bool) : ∀ (l : List α) (i : Nat) (u : Unit), runL (ρ := Bool) (fun _ _ x => if p x then .inr () else .inl (some false)) (fun _ => some true) l i u = some (l.all p)
 | [], i, u => rfl
 | x :: r, i, u => by
   rw [runL]
   cases h : p x
   · simp [h]
   · simp only [if_true, List.all_cons, h, Bool.true_and]
     exact Th p r _ _
theorem AN7 (s : ByteArray) : Ev (fun n => GC n s) (KK s) := by
 refine ⟨18, fun n hn => ?_⟩
 unfold GC FP FQ
 by_cases h0 : s = (⟨#[]⟩ : ByteArray)
 · subst h0; rfl
 have hs : s.size ≠ 0 := fun e => h0 (Wk (by
   have : s.data.size = 0 := e
   have h2 := Array.eq_empty_of_size_eq_zero this
   simp [h2]))
 by_cases h16 : (16 : Int) < s.size
 · have : ¬ s.size ≤ 16 := by omega
   simp [h0, h16, KK, this]
 · have hle : s.size ≤ 16 := by omega
   have hl := SN s
   have e0 : Ay6 s 0 = (Ec s)[0]? := Ab9 s 0
   cases hb : Ec s with
   | nil => rw [hb] at hl; simp at hl; omega
   | cons c r =>
     have hloop : Cd s n 0 = some ((Ec s).all Cz) := by
       have := B0 (l := Ec s) (F := fun m (_ : Unit) v => Cd s m v) (g := fun _ _ x => if Cz x then .inr () else .inl (some false)) (fin := fun _ => some true)
         (fun m i x u hx => by
           have hlt := BC hx
           show Cd s (m + 1) (i : Int) = _
           rw [Cd, G4, Bk, hx]
           have : (i : Int) < ((Ec s).length : Int) := by omega
           simp only [this, decide_true, cond_true, Option.bind_some]
           cases Cz x
           · rfl
           · simp only [Bool.not_true, cond_false, if_true]
             rw [Bi (by omega)])
         (fun m u => by
           show Cd s (m + 1) _ = _
           rw [Cd, G4]; simp) (m := n) (by omega) ()
       rw [this, Th]
     rw [hb] at e0 hloop
     simp only [List.getElem?_cons_zero] at e0
     simp only [h0, h16, decide_false, cond_false, e0, Option.bind_some, KK, hb]
     rw [hloop]
     cases Cv c <;> simp [hs, hle]
end Go.Ax
set_option linter.unusedVariables false
set_option linter.unusedSimpArgs false
namespace Go.Ax
theorem OE {α : Type} (b : α → Bool) : ∀ (l : List α) (i : Nat) (u : Unit), ∃ v : Int, runL (ρ := Int) (fun _ i x => if b x then .inl (some (i : Int)) else .inr ()) (fun _ => some (-1)) l i u = some v ∧ (0 ≤ v ↔ l.any b = true)
 | [], i, u => ⟨-1, rfl, by simp⟩
 | x :: r, i, u => by
   rw [runL]
   cases h : b x
   · simp only [Bool.false_eq_true, if_false, List.any_cons, h, Bool.false_or]
     exact OE b r _ _
   · exact ⟨i, by simp, by simp [h]⟩
theorem Lu {n : Nat} {l : List ByteArray} {fn1 : ByteArray → Option Bool} {b : ByteArray → Bool} (hn : l.length < n) (hs : MI l) (hf : ∀ x, x ∈ l → fn1 x = some (b x)) : ∃ v, Ce n l fn1 = some v ∧ (0 ≤ v ↔ l.any b = true) := by
 unfold Ce
 have := B0 (l := l) (F := fun m (_ : Unit) v => A5 l fn1 m v) (g := fun _ i x => if b x then .inl (some (i : Int)) else .inr ()) (fin := fun _ => some (-1))
   (fun m i x u hx => by
     have hlt := BC hx
     show A5 l fn1 (m + 1) (i : Int) = _
     rw [A5, Cu, Bk, hx]
     have h1 : (i : Int) < (l.length : Int) := by omega
     simp only [h1, decide_true, cond_true, Option.bind_some, hf x (List.mem_of_getElem? hx)]
     cases b x
     · simp only [cond_false, Bool.false_eq_true, if_false]; rw [Bi (by omega)]
     · rfl)
   (fun m u => by
     show A5 l fn1 (m + 1) _ = _
     rw [A5, Cu]; simp) (m := n) hn ()
 rw [this]
 exact OE b l 0 ()
theorem KI {n : Nat} {l : List ByteArray} {fn1 : ByteArray → Option Bool} {b : ByteArray → Bool} (hn : l.length < n) (hs : MI l) (hf : ∀ x, x ∈ l → fn1 x = some (b x)) : BT n l fn1 = some (l.any b) := by
 obtain ⟨v, h1, h2⟩ := Lu hn hs hf
 rw [BT, h1]
 simp only [Option.bind_some]
 congr 1
 rw [Bool.eq_iff_iff, decide_eq_true_iff]
 exact h2
theorem Xz {n : Nat} {l : List ByteArray} (p : ByteArray) (hn : l.length < n) (hs : MI l) : BR n l p = some (l.any fun x => decide (p = x)) := by
 unfold BR Dm
 have := B0 (l := l) (F := fun m (_ : Unit) v => Ba l p m v) (g := fun _ i x => if decide (p = x) then .inl (some (i : Int)) else .inr ()) (fin := fun _ => some (-1))
   (fun m i x u hx => by
     have hlt := BC hx
     show Ba l p (m + 1) (i : Int) = _
     rw [Ba, CS, Bk, hx]
     have h1 : (i : Int) < (l.length : Int) := by omega
     simp only [h1, decide_true, cond_true, Option.bind_some]
     cases decide (p = x)
     · simp only [cond_false, Bool.false_eq_true, if_false]; rw [Bi (by omega)]
     · rfl)
   (fun m u => by
     show Ba l p (m + 1) _ = _
     rw [Ba, CS]; simp) (m := n) hn ()
 rw [this]
 obtain ⟨v, h1, h2⟩ := OE (fun x => decide (p = x)) l 0 ()
 rw [h1]
 simp only [Option.bind_some]
 congr 1
 rw [Bool.eq_iff_iff, decide_eq_true_iff]
 exact h2
def Lp (s : ByteArray) : Bool := Hf.any fun x => decide (s = x)
theorem Ar2 (s : ByteArray) : Ev (fun n => GI n s) (Lp s) := ⟨50, fun n hn => by
 show GI n s = _
 rw [GI, Xz s (Nat.lt_of_lt_of_le (by decide) hn) (by decide)]
 rfl⟩
def Ci (s : ByteArray) : Bool := KK s && !Lp s
theorem AK0 (l : List ByteArray) (hs : MI l) : Ev (fun n => GB n l) (l.all KK) := by
 obtain ⟨N, hN⟩ := Ev.all (l := l) (f := fun n x => GC n x) (r := KK) fun x _ => AN7 x
 refine ⟨max N (l.length + 1), fun n hn => ?_⟩
 show GB n l = _
 unfold GB
 have := B0 (l := l) (F := fun m (_ : Unit) v => Cx l n m v) (g := fun _ _ x => if KK x then .inr () else .inl (some false)) (fin := fun _ => some true)
   (fun m i x u hx => by
     have hlt := BC hx
     show Cx l n (m + 1) (i : Int) = _
     rw [Cx, G1, Bk, hx]
     have h1 : (i : Int) < (l.length : Int) := by omega
     simp only [h1, decide_true, cond_true, Option.bind_some, hN n (by omega) x (List.mem_of_getElem? hx)]
     cases KK x
     · rfl
     · simp only [Bool.not_true, cond_false, if_true]; rw [Bi (by omega)])
   (fun m u => by
     show Cx l n (m + 1) _ = _
     rw [Cx, G1]; simp) (m := n) (by omega) ()
 rw [this, Th]
theorem Lg (l : List ByteArray) (hs : MI l) : Ev (fun n => Gw n l) (l.all Ci) := by
 obtain ⟨N, hN⟩ := AK0 l hs
 obtain ⟨M, hM⟩ := Ev.all (l := l) (f := fun n x => GI n x) (r := Lp) fun x _ => Ar2 x
 refine ⟨max (max N M) (l.length + 1), fun n hn => ?_⟩
 show Gw n l = _
 have h1 := hN n (by omega)
 simp only at h1
 rw [Gw, h1, Option.bind_some, KI (b := Lp) (by omega) hs (fun x hx => hM n (by omega) x hx)]
 simp only [Option.bind_some]
 have e : l.all Ci = (l.all KK && !l.any Lp) := by
   clear h1 hN hM hn hs
   induction l with
   | nil => rfl
   | cons x r ih => simp only [List.all_cons, List.any_cons, ih, Ci]; cases KK x <;> cases Lp x <;> simp
 rw [e]
 cases l.all KK <;> rfl
theorem Ab8 (s : ByteArray) : Ev (fun n => F4 n s) (Lp s) := ⟨50, fun n hn => by
 show F4 n s = _
 unfold F4
 have hlen : Hf.length = 43 := by decide
 have := B0 (l := Hf) (F := fun m (_ : Unit) v => BF s m v) (g := fun _ i x => if decide (x = s) then .inl (some true) else .inr ()) (fin := fun _ => some false)
   (fun m i x u hx => by
     have hlt := BC hx
     show BF s (m + 1) (i : Int) = _
     rw [BF, ES]
     change (bif decide ((i : Int) < (Hf.length : Int)) then (Dd Hf (i : Int)).bind _ else _) = _
     rw [Bk, hx]
     have h1 : (i : Int) < (Hf.length : Int) := by omega
     simp only [h1, decide_true, cond_true, Option.bind_some]
     cases decide (x = s)
     · simp only [cond_false, Bool.false_eq_true, if_false]; rw [Bi (by omega)]
     · rfl)
   (fun m u => by
     show BF s (m + 1) _ = _
     rw [BF, ES]
     change (bif decide ((Hf.length : Int) < (Hf.length : Int)) then _ else _) = _
     simp) (m := n) (by omega) ()
 rw [this]
 have key : ∀ (l : List ByteArray) (i : Nat) (u : Unit), runL (ρ := Bool) (fun _ i x => if decide (x = s) then .inl (some true) else .inr ()) (fun _ => some false) l i u = some (l.any fun x => decide (s = x)) := by
   intro l
   induction l with
   | nil => intro i u; simp [runL]
   | cons x r ih =>
     intro i u
     rw [runL]
     by_cases h : x = s
     · simp [h]
     · have h2 : ¬ s = x := fun e => h e.symm
       simp only [h, decide_false, Bool.false_eq_true, if_false, ih, List.any_cons, h2, Bool.false_or]
 rw [key]; rfl⟩
theorem As5 (s : ByteArray) : Ev (fun n => Ct n s) (KK s) := by
 refine ⟨18, fun n hn => ?_⟩
 show Ct n s = _
 unfold Ct Cb
 by_cases h0 : s.size = 0
 · simp [h0, KK]
 · by_cases h16 : (16 : Int) < s.size
   · have : ¬ s.size ≤ 16 := by omega
     have h1 : ¬ (s.size : Int) < 1 := by omega
     simp [h1, h16, KK, this]
   · have hle : s.size ≤ 16 := by omega
     have h1 : ¬ (s.size : Int) < 1 := by omega
     have hl := SN s
     simp only [h1, h16, decide_false, cond_false]
     have := B0 (l := Ec s) (F := fun m (_ : Unit) v => A6 s m v) (g := fun _ i x => if (if i = 0 then Cv x else Cz x) then .inr () else .inl (some false)) (fin := fun _ => some true)
       (fun m i x u hx => by
         have hlt := BC hx
         show A6 s (m + 1) (i : Int) = _
         rw [A6, Cw, Ab9, hx]
         have h1 : (i : Int) < (s.size : Int) := by omega
         simp only [h1, decide_true, cond_true, Option.bind_some]
         have hw := Bi (i := i) (by omega)
         simp only [Ch, hw, Cv, Cz]
         by_cases hi : i = 0
         · subst hi
           by_cases h97 : (97 : Int) ≤ x <;> by_cases h122 : x ≤ (122 : Int) <;> simp [h97, h122]
         · have hi' : ¬ (i : Int) = 0 := by omega
           simp only [hi, hi', if_false, decide_false, cond_false]
           by_cases h97 : (97 : Int) ≤ x <;> by_cases h122 : x ≤ (122 : Int) <;> by_cases h48 : (48 : Int) ≤ x <;> by_cases h57 : x ≤ (57 : Int) <;> by_cases h95 : x = (95 : Int) <;> simp [h97, h122, h48, h57, h95])
       (fun m u => by
         show A6 s (m + 1) _ = _
         rw [A6, Cw, hl]; simp) (m := n) (by omega) ()
     rw [this]
     have key : ∀ (l : List Int) (i : Nat) (u : Unit), i ≠ 0 → runL (ρ := Bool) (fun _ i x => if (if i = 0 then Cv x else Cz x) then .inr () else .inl (some false)) (fun _ => some true) l i u = some (l.all Cz) := by
       intro l
       induction l with
       | nil => intro i u _; rfl
       | cons x r ih =>
         intro i u hi
         rw [runL]
         simp only [hi, if_false, List.all_cons]
         cases Cz x
         · simp
         · simp only [if_true, Bool.true_and]; exact ih _ _ (by omega)
     unfold KK
     cases hb : Ec s with
     | nil => rw [hb] at hl; simp at hl; omega
     | cons c r =>
       rw [runL]
       simp only [if_true, List.all_cons]
       have hlp : Cv c = true → Cz c = true := fun h => by simp [Cz, h]
       cases hc : Cv c
       · simp
       · simp only [if_true, hlp hc, Bool.true_and, key r 1 () (by omega)]
         simp [h0, hle]
theorem GW (s : ByteArray) : Ev (fun n => Du n s) (Ci s) := by
 obtain ⟨N, hN⟩ := As5 s
 obtain ⟨M, hM⟩ := Ab8 s
 refine ⟨max N M, fun n hn => ?_⟩
 show Du n s = _
 have h1 := hN n (by omega)
 have h2 := hM n (by omega)
 simp only at h1 h2
 rw [Du, h1, h2]
 simp only [Option.bind_some, Ci]
 cases KK s <;> rfl
end Go.Ax
set_option linter.unusedVariables false
set_option linter.unusedSimpArgs false
namespace Go.Ax
inductive LimE : TE → Prop
 | mk (e : TE) (h1 : e.Args.length ≤ 10) (h : ∀ a, a ∈ e.Args → LimE a) : LimE e
def FE (op : Int) : Int := if 1 ≤ op ∧ op ≤ 5 then 0 else if 6 ≤ op ∧ op ≤ 18 then 2 else if op = 19 ∨ op = 20 ∨ op = 21 then 1 else if 22 ≤ op ∧ op ≤ 24 then 2 else -1
def JR (op : Int) : Bool := decide (21 ≤ op ∧ op ≤ 24)
theorem Ap5 (op : Int) : O0 op = (FE op, JR op) := by
 simp only [O0, Md, LW, LO, Bool.cond_decide, cond_true, cond_false, FE, JR]
 repeat' split
 all_goals first | (exfalso; omega) | (simp; try omega)
def RO (e : TE) : Bool :=
 if e.Op = 1 then decide (0 ≤ e.N) && (decide ((⟨#[]⟩ : ByteArray) = e.S) && (decide ((⟨#[]⟩ : ByteArray) = e.Name) && decide ((⟨#[]⟩ : ByteArray) = e.Src)))
 else if e.Op = 2 then decide (e.S.size ≤ 200) && (decide (0 = e.N) && (decide ((⟨#[]⟩ : ByteArray) = e.Name) && decide ((⟨#[]⟩ : ByteArray) = e.Src)))
 else if e.Op = 3 then decide (0 ≤ e.N ∧ e.N ≤ 1) && (decide ((⟨#[]⟩ : ByteArray) = e.S) && (decide ((⟨#[]⟩ : ByteArray) = e.Name) && decide ((⟨#[]⟩ : ByteArray) = e.Src)))
 else if e.Op = 4 then Ci e.Name && (decide (0 = e.N) && (decide ((⟨#[]⟩ : ByteArray) = e.S) && decide ((⟨#[]⟩ : ByteArray) = e.Src)))
 else if e.Op = 5 then (Ci e.Name && Ci e.S) && (decide (0 = e.N) && decide ((⟨#[]⟩ : ByteArray) = e.Src))
 else if JR e.Op = true then (Ci e.Name && Ci e.Src) && (decide (0 = e.N) && decide ((⟨#[]⟩ : ByteArray) = e.S))
 else decide (0 = e.N) && (decide ((⟨#[]⟩ : ByteArray) = e.S) && (decide ((⟨#[]⟩ : ByteArray) = e.Name) && decide ((⟨#[]⟩ : ByteArray) = e.Src)))
theorem AH6 (e : TE) : Ev (fun n => Lk n e) (RO e) := by
 obtain ⟨N1, h1⟩ := Lg [e.Name] (by simp)
 obtain ⟨N2, h2⟩ := Lg [e.Name, e.S] (by simp)
 obtain ⟨N3, h3⟩ := Lg [e.Name, e.Src] (by simp)
 refine ⟨N1 + N2 + N3, fun n hn => ?_⟩
 have h1 := h1 n (by omega)
 have h2 := h2 n (by omega)
 have h3 := h3 n (by omega)
 simp only [List.all_cons, List.all_nil, Bool.and_true] at h1 h2 h3
 have h3d : (Int.fdiv e.N (2 ^ (min (Int.toNat (1 : Int)) (IntKind.bits .i64))) = (0 : Int)) ↔ (0 ≤ e.N ∧ e.N ≤ 1) := by
   have : (2 : Int) ^ (min (Int.toNat (1 : Int)) (IntKind.bits .i64)) = 2 := rfl
   rw [this, Int.fdiv_eq_ediv_of_nonneg _ (by decide)]; omega
 show Lk n e = _
 unfold Lk RO
 simp only [h1, h2, h3, Ap5, Option.bind_some, decide_true, h3d, Int.ofNat_le,
   Jv, Ji, JC, Jz, JP, Jn, JM, JS, JY, JO,
   IH, IF, Iy, IG, Iv, IE, Is, Iu, IA, IC]
 have e200 : (decide ((e.S.size : Int) ≤ 200)) = decide (e.S.size ≤ 200) := by rw [decide_eq_decide]; omega
 rw [e200]
 generalize Ci e.Name = b1
 generalize Ci e.S = b2
 generalize Ci e.Src = b3
 by_cases o1 : e.Op = 1
 · simp only [o1, decide_true, cond_true, if_true]
   cases decide (0 ≤ e.N) <;> cases decide ((⟨#[]⟩ : ByteArray) = e.S) <;> cases decide ((⟨#[]⟩ : ByteArray) = e.Name) <;> cases decide ((⟨#[]⟩ : ByteArray) = e.Src) <;> rfl
 by_cases o2 : e.Op = 2
 · simp only [o1, o2, decide_true, decide_false, cond_true, cond_false, if_true, if_false]
   cases decide (e.S.size ≤ 200) <;> cases decide (0 = e.N) <;> cases decide ((⟨#[]⟩ : ByteArray) = e.Name) <;> cases decide ((⟨#[]⟩ : ByteArray) = e.Src) <;> rfl
 by_cases o3 : e.Op = 3
 · simp only [o1, o2, o3, decide_true, decide_false, cond_true, cond_false, if_true, if_false]
   cases decide (0 ≤ e.N ∧ e.N ≤ 1) <;> cases decide ((⟨#[]⟩ : ByteArray) = e.S) <;> cases decide ((⟨#[]⟩ : ByteArray) = e.Name) <;> cases decide ((⟨#[]⟩ : ByteArray) = e.Src) <;> rfl
 by_cases o4 : e.Op = 4
 · simp only [o1, o2, o3, o4, decide_true, decide_false, cond_true, cond_false, if_true, if_false]
   cases b1 <;> cases decide (0 = e.N) <;> cases decide ((⟨#[]⟩ : ByteArray) = e.S) <;> cases decide ((⟨#[]⟩ : ByteArray) = e.Src) <;> rfl
 by_cases o5 : e.Op = 5
 · simp only [o1, o2, o3, o4, o5, decide_true, decide_false, cond_true, cond_false, if_true, if_false]
   cases b1 <;> cases b2 <;> cases decide (0 = e.N) <;> cases decide ((⟨#[]⟩ : ByteArray) = e.Src) <;> rfl
 simp only [o1, o2, o3, o4, o5, decide_false, cond_false, if_false]
 cases JR e.Op
 · simp only [cond_false, Bool.false_eq_true, if_false]
   cases decide (0 = e.N) <;> cases decide ((⟨#[]⟩ : ByteArray) = e.S) <;> cases decide ((⟨#[]⟩ : ByteArray) = e.Name) <;> cases decide ((⟨#[]⟩ : ByteArray) = e.Src) <;> rfl
 · simp only [cond_true, if_true]
   cases b1 <;> cases b3 <;> cases decide (0 = e.N) <;> cases decide ((⟨#[]⟩ : ByteArray) = e.S) <;> rfl
def Am0 (e : TE) : Bool := decide (FE e.Op = (e.Args.length : Int)) && RO e
mutual
def okE : TE → Bool
 | ⟨op, n, s, name, src, args⟩ => Am0 ⟨op, n, s, name, src, args⟩ && AT7 args
def AT7 : List TE → Bool
 | [] => true
 | a :: l => okE a && AT7 l
end
theorem AG6 : ∀ l : List TE, AT7 l = l.all okE
 | [] => rfl
 | a :: l => by rw [AT7, AG6 l]; rfl
theorem Wr (e : TE) : okE e = (Am0 e && e.Args.all okE) := by cases e; rw [okE, AG6]
theorem Kk {n : Nat} {l : List TE} {fn1 : TE → Option Bool} {b : TE → Bool} (hn : l.length < n) (hs : MI l) (hf : ∀ x, x ∈ l → fn1 x = some (b x)) : ∃ v, BO n l fn1 = some v ∧ (0 ≤ v ↔ l.any b = true) := by
 unfold BO
 have := B0 (l := l) (F := fun m (_ : Unit) v => AR l fn1 m v) (g := fun _ i x => if b x then .inl (some (i : Int)) else .inr ()) (fin := fun _ => some (-1))
   (fun m i x u hx => by
     have hlt := BC hx
     show AR l fn1 (m + 1) (i : Int) = _
     rw [AR, BW, Bk, hx]
     have h1 : (i : Int) < (l.length : Int) := by omega
     simp only [h1, decide_true, cond_true, Option.bind_some, hf x (List.mem_of_getElem? hx)]
     cases b x
     · simp only [cond_false, Bool.false_eq_true, if_false]; rw [Bi (by omega)]
     · rfl)
   (fun m u => by
     show AR l fn1 (m + 1) _ = _
     rw [AR, BW]; simp) (m := n) hn ()
 rw [this]
 exact OE b l 0 ()
theorem FJ {n : Nat} {l : List TE} {fn1 : TE → Option Bool} {b : TE → Bool} (hn : l.length < n) (hs : MI l) (hf : ∀ x, x ∈ l → fn1 x = some (b x)) : Bq n l fn1 = some (l.any b) := by
 obtain ⟨v, h1, h2⟩ := Kk hn hs hf
 rw [Bq, h1]
 simp only [Option.bind_some]
 congr 1
 rw [Bool.eq_iff_iff, decide_eq_true_iff]
 exact h2
theorem Km {n : Nat} {l : List TS} {fn1 : TS → Option Bool} {b : TS → Bool} (hn : l.length < n) (hs : MI l) (hf : ∀ x, x ∈ l → fn1 x = some (b x)) : ∃ v, BP n l fn1 = some v ∧ (0 ≤ v ↔ l.any b = true) := by
 unfold BP
 have := B0 (l := l) (F := fun m (_ : Unit) v => AS l fn1 m v) (g := fun _ i x => if b x then .inl (some (i : Int)) else .inr ()) (fin := fun _ => some (-1))
   (fun m i x u hx => by
     have hlt := BC hx
     show AS l fn1 (m + 1) (i : Int) = _
     rw [AS, BY, Bk, hx]
     have h1 : (i : Int) < (l.length : Int) := by omega
     simp only [h1, decide_true, cond_true, Option.bind_some, hf x (List.mem_of_getElem? hx)]
     cases b x
     · simp only [cond_false, Bool.false_eq_true, if_false]; rw [Bi (by omega)]
     · rfl)
   (fun m u => by
     show AS l fn1 (m + 1) _ = _
     rw [AS, BY]; simp) (m := n) hn ()
 rw [this]
 exact OE b l 0 ()
theorem Jc {n : Nat} {l : List TS} {fn1 : TS → Option Bool} {b : TS → Bool} (hn : l.length < n) (hs : MI l) (hf : ∀ x, x ∈ l → fn1 x = some (b x)) : BD n l fn1 = some (l.any b) := by
 obtain ⟨v, h1, h2⟩ := Km hn hs hf
 rw [BD, h1]
 simp only [Option.bind_some]
 congr 1
 rw [Bool.eq_iff_iff, decide_eq_true_iff]
 exact h2
theorem Ao2 {e : TE} (h : LimE e) : Ev (fun n => CU n e) (okE e) := by
 induction h with
 | mk e hl hk ih =>
   obtain ⟨N1, h1⟩ := AH6 e
   obtain ⟨N2, h2⟩ := Ev.all (l := e.Args) (f := fun n a => CU n a) (r := okE) ih
   refine ⟨N1 + N2 + 20, fun n hn => ?_⟩
   obtain ⟨m, rfl⟩ : ∃ m, n = m + 2 := ⟨n - 2, by omega⟩
   have h1 := h1 (m + 1) (by omega)
   simp only at h1
   have hf : ∀ x, x ∈ e.Args → DI (m + 1) x = some (!okE x) := fun x hx => by
     rw [DI, H4, h2 m (by omega) x hx]; rfl
   show CU (m + 2) e = _
   rw [CU, JD, h1, Option.bind_some, Ap5]
   simp only [Hh]
   rw [FJ (b := fun x => !okE x) (by omega) (by omega) hf]
   rw [Wr, Am0]
   have e1 : (!e.Args.any fun x => !okE x) = e.Args.all okE := by rw [Bool.eq_iff_iff]; simp
   simp only [Option.bind_some, e1]
   cases decide (FE e.Op = (e.Args.length : Int)) <;> cases RO e <;> rfl
theorem Ag7 {e : TE} {s : TE → Option Bool} {n : Nat} (hl : e.Args.length ≤ 10) (hn : 10 < n) (hs : ∀ a, a ∈ e.Args → s a = some (okE a)) (v9 : Int) (v10 v11 v12 : ByteArray) (v13 : Int) :
   BM e s n v9 v10 v11 v12 v13 = some (decide (e.N = v9) && (decide (e.S = v10) && (decide (e.Name = v11) && (decide (e.Src = v12) && (decide ((e.Args.length : Int) = v13) && e.Args.all okE))))) := by
 have hloop : (e.Args.length : Int) = v13 → Bv e s v13 n 0 = some (e.Args.all okE) := fun hv => by
   subst hv
   have := B0 (l := e.Args) (F := fun m (_ : Unit) v => Bv e s (e.Args.length : Int) m v) (g := fun _ _ x => if okE x then .inr () else .inl (some false)) (fin := fun _ => some true)
     (fun m i x u hx => by
       have hlt := BC hx
       show Bv e s _ (m + 1) (i : Int) = _
       rw [Bv, Eh, Bk, hx]
       have h1 : (i : Int) < (e.Args.length : Int) := by omega
       simp only [h1, decide_true, cond_true, Option.bind_some, hs x (List.mem_of_getElem? hx)]
       cases okE x
       · rfl
       · simp only [Bool.not_true, cond_false, if_true]; rw [Bi (by omega)])
     (fun m u => by
       show Bv e s _ (m + 1) _ = _
       rw [Bv, Eh]; simp) (m := n) (by omega) ()
   rw [this, Th]
 simp only [BM, DV, DT, DR, DU]
 by_cases h9 : e.N = v9 <;> by_cases h10 : e.S = v10 <;> by_cases h11 : e.Name = v11 <;> by_cases h12 : e.Src = v12 <;> by_cases h13 : (e.Args.length : Int) = v13 <;> simp [h9, h10, h11, h12, h13]
 all_goals (first | (rw [← h13]; exact hloop h13) | skip)
 all_goals exact hloop h13
theorem Yh {e : TE} (h : LimE e) : Ev (fun n => BE n e) (okE e) := by
 induction h with
 | mk e hl hk ih =>
   obtain ⟨N1, h1⟩ := GW e.Name
   obtain ⟨N2, h2⟩ := GW e.S
   obtain ⟨N3, h3⟩ := GW e.Src
   obtain ⟨N4, h4⟩ := Ev.all (l := e.Args) (f := fun n a => BE n a) (r := okE) ih
   refine ⟨N1 + N2 + N3 + N4 + 20, fun n hn => ?_⟩
   obtain ⟨m, rfl⟩ : ∃ m, n = m + 1 := ⟨n - 1, by omega⟩
   have h1 := h1 m (by omega)
   have h2 := h2 m (by omega)
   have h3 := h3 m (by omega)
   simp only at h1 h2 h3
   show BE (m + 1) e = _
   have ht := Ag7 (s := BE m) (n := m) hl (by omega) (fun a ha => h4 m (by omega) a ha)
   rw [BE, Wr, Am0]
   simp only [FB, Dn, DY, DZ, DS, DQ, h1, h2, h3, ht, Option.bind_some]
   have e0 : ∀ a b : ByteArray, decide (a = b) = decide (b = a) := fun a b => by rw [decide_eq_decide]; exact eq_comm
   have en : decide (e.N = 0) = decide (0 = e.N) := by rw [decide_eq_decide]; exact eq_comm
   have el : decide ((e.Args.length : Int) = 0) = decide (0 = (e.Args.length : Int)) := by rw [decide_eq_decide]; exact eq_comm
   have el1 : decide ((e.Args.length : Int) = 1) = decide (1 = (e.Args.length : Int)) := by rw [decide_eq_decide]; exact eq_comm
   have el2 : decide ((e.Args.length : Int) = 2) = decide (2 = (e.Args.length : Int)) := by rw [decide_eq_decide]; exact eq_comm
   have emax : decide (e.N = max e.N 0) = decide (0 ≤ e.N) := by rw [decide_eq_decide]; omega
   have emm : decide (e.N = min (max e.N 0) 1) = decide (0 ≤ e.N ∧ e.N ≤ 1) := by rw [decide_eq_decide]; omega
   have e200 : (decide ((200 : Int) < (e.S.size : Int))) = !decide (e.S.size ≤ 200) := by rw [Bool.eq_iff_iff]; simp; omega
   rw [e0 e.S ⟨#[]⟩, e0 e.Name ⟨#[]⟩, e0 e.Src ⟨#[]⟩, en, el, el1, el2, emax, emm, e200]
   simp only [decide_true, Bool.true_and]
   unfold RO
   generalize Ci e.Name = b1
   generalize Ci e.S = b2
   generalize Ci e.Src = b3
   generalize e.Args.all okE = b4
   generalize decide ((⟨#[]⟩ : ByteArray) = e.S) = b5
   generalize decide ((⟨#[]⟩ : ByteArray) = e.Name) = b6
   generalize decide ((⟨#[]⟩ : ByteArray) = e.Src) = b7
   generalize decide (0 = e.N) = b8
   generalize decide (e.S.size ≤ 200) = b9
   generalize decide (0 ≤ e.N) = b10
   generalize decide (0 ≤ e.N ∧ e.N ≤ 1) = b11
   have ar : FE e.Op = FE e.Op := rfl
   by_cases o1 : e.Op = 1
   · simp only [o1, decide_true, cond_true, if_true, show FE 1 = 0 from rfl]
     generalize decide (0 = (e.Args.length : Int)) = b12
     revert b5 b6 b7 b10 b12 b4; decide
   by_cases o2 : e.Op = 2
   · simp only [o1, o2, decide_true, decide_false, cond_true, cond_false, if_true, if_false, Int.reduceEq, show FE 2 = 0 from rfl]
     generalize decide (0 = (e.Args.length : Int)) = b12
     revert b6 b7 b8 b9 b12 b4; decide
   by_cases o3 : e.Op = 3
   · simp only [o1, o2, o3, decide_true, decide_false, cond_true, cond_false, if_true, if_false, Int.reduceEq, show FE 3 = 0 from rfl]
     generalize decide (0 = (e.Args.length : Int)) = b12
     revert b5 b6 b7 b11 b12 b4; decide
   by_cases o4 : e.Op = 4
   · simp only [o1, o2, o3, o4, decide_true, decide_false, cond_true, cond_false, if_true, if_false, Int.reduceEq, show FE 4 = 0 from rfl, show ¬ (4 : Int) = 5 by decide, show ¬ (5 : Int) < 4 by decide]
     generalize decide (0 = (e.Args.length : Int)) = b12
     revert b1 b5 b7 b8 b12 b4; decide
   by_cases o5 : e.Op = 5
   · simp only [o1, o2, o3, o4, o5, decide_true, decide_false, cond_true, cond_false, if_true, if_false, Int.reduceEq, show FE 5 = 0 from rfl, show ¬ (5 : Int) < 5 by decide]
     generalize decide (0 = (e.Args.length : Int)) = b12
     revert b1 b2 b7 b8 b12 b4; decide
   simp only [o1, o2, o3, o4, o5, decide_false, cond_false, if_false]
   by_cases o21 : e.Op = 21
   · simp only [o21, show JR 21 = true from rfl, show FE 21 = 1 from rfl, show (21 : Int) ≤ 21 by decide, show (21 : Int) ≤ 24 by decide, show (5 : Int) < 21 by decide, decide_true, cond_true, if_true]
     generalize decide (1 = (e.Args.length : Int)) = b12
     revert b1 b3 b5 b8 b12 b4; decide
   by_cases o22 : 22 ≤ e.Op ∧ e.Op ≤ 24
   · have q1 : JR e.Op = true := by simp [JR]; omega
     have q2 : FE e.Op = 2 := by unfold FE; repeat' split <;> try omega
     simp only [q1, q2, o21, show (21 : Int) ≤ e.Op by omega, show e.Op ≤ 24 by omega, show (5 : Int) < e.Op by omega, decide_true, decide_false, cond_true, cond_false, if_true]
     generalize decide (2 = (e.Args.length : Int)) = b12
     revert b1 b3 b5 b8 b12 b4; decide
   have hr : JR e.Op = false := by simp [JR]; omega
   simp only [hr, Bool.false_eq_true, if_false]
   have n21 : (bif decide ((21 : Int) ≤ e.Op) then decide (e.Op ≤ 24) else false) = false := by
     by_cases h : (21 : Int) ≤ e.Op
     · simp only [h, decide_true, cond_true]; simp; omega
     · simp [h]
   by_cases h21 : (21 : Int) ≤ e.Op
   · have h24 : ¬ e.Op ≤ 24 := by omega
     have q2 : FE e.Op = -1 := by unfold FE; repeat' split <;> try omega
     have q3 : decide ((-1 : Int) = (e.Args.length : Int)) = false := decide_eq_false (by omega)
     simp only [h21, h24, q2, q3, show (6 : Int) ≤ e.Op by omega, show ¬ e.Op ≤ 18 by omega, show ¬ e.Op = 19 by omega, show ¬ e.Op = 20 by omega, decide_true, decide_false, cond_true, cond_false, Bool.false_and]
   · simp only [h21, decide_false, cond_false]
     by_cases o6 : 6 ≤ e.Op ∧ e.Op ≤ 18
     · have q2 : FE e.Op = 2 := by unfold FE; repeat' split <;> try omega
       simp only [o6.1, o6.2, q2, decide_true, cond_true]
       generalize decide (2 = (e.Args.length : Int)) = b12
       revert b5 b6 b7 b8 b12 b4; decide
     · by_cases o19 : e.Op = 19 ∨ e.Op = 20
       · have q2 : FE e.Op = 1 := by unfold FE; repeat' split <;> try omega
         have h6 : (6 : Int) ≤ e.Op := by omega
         have h18 : ¬ e.Op ≤ 18 := by omega
         simp only [h6, h18, q2, decide_true, decide_false, cond_true, cond_false]
         generalize decide (1 = (e.Args.length : Int)) = b12
         rcases o19 with o | o
         · simp only [o, decide_true, cond_true]; revert b5 b6 b7 b8 b12 b4; decide
         · simp only [o, show ¬ (20 : Int) = 19 by decide, decide_true, decide_false, cond_true, cond_false]; revert b5 b6 b7 b8 b12 b4; decide
       · have q2 : FE e.Op = -1 := by unfold FE; repeat' split <;> try omega
         have q3 : decide ((-1 : Int) = (e.Args.length : Int)) = false := decide_eq_false (by omega)
         have h19 : ¬ e.Op = 19 := by omega
         have h20 : ¬ e.Op = 20 := by omega
         simp only [q2, q3, h19, h20, decide_false, cond_false, Bool.false_and]
         by_cases h6 : (6 : Int) ≤ e.Op
         · have h18 : ¬ e.Op ≤ 18 := by omega
           simp only [h6, h18, decide_true, decide_false, cond_true, cond_false]
         · simp only [h6, decide_false, cond_false]
end Go.Ax
set_option linter.unusedVariables false
set_option linter.unusedSimpArgs false
namespace Go.Ax
inductive LimS : TS → Prop
 | mk (x : TS) (h0 : x.Cols.length ≤ 12) (h1 : x.Exprs.length ≤ 10) (h2 : x.Body.length ≤ 10) (h3 : x.Else.length ≤ 10) (he : ∀ a, a ∈ x.Exprs → LimE a) (hb : ∀ a, a ∈ x.Body → LimS a) (hc : ∀ a, a ∈ x.Else → LimS a) : LimS x
def nmO (op : Int) : Bool := decide (op = 1 ∨ op = 2 ∨ op = 4 ∨ op = 5 ∨ op = 6)
def srO (op : Int) : Bool := decide (op = 3 ∨ op = 4 ∨ op = 5 ∨ op = 6 ∨ op = 8)
def coO (op : Int) : Bool := decide (op = 4)
def nuO (op : Int) : Bool := decide (op = 6)
def boO (op : Int) : Bool := decide (op = 6 ∨ op = 7)
def otO (op : Int) : Bool := decide (op = 7)
def maO (op : Int) : Bool := decide (op = 3 ∨ op = 8 ∨ op = 10)
def YV (b : Bool) (s : ByteArray) : Bool := bif b then Ci s else decide (s = (⟨#[]⟩ : ByteArray))
def Kz (b : Bool) (l : List ByteArray) : Bool := bif b then decide (1 ≤ l.length) && (decide (l.length ≤ 8) && (l.all Ci && decide l.Nodup)) else decide (l.length = 0)
def R0 (b : Bool) (n : Int) : Bool := bif b then decide (0 ≤ n) && decide (n ≤ 1000) else decide (n = 0)
def LA (bo ot : Bool) (x : TS) : Bool := (bo || decide (x.Body.length = 0)) && (ot || decide (x.Else.length = 0))
def R1 (op : Int) (x : TS) : Bool := bif maO op then decide (1 ≤ x.Exprs.length) && decide (x.Exprs.length ≤ 8) else decide (x.Exprs.length = 1 + x.Cols.length)
def E1 (x : TS) : Bool := decide (1 ≤ x.Op ∧ x.Op ≤ 10) && (YV (nmO x.Op) x.Name && (YV (srO x.Op) x.Src && (Kz (coO x.Op) x.Cols && (R0 (nuO x.Op) x.N && (R1 x.Op x && LA (boO x.Op) (otO x.Op) x)))))
theorem Ac5 (b : Bool) (s : ByteArray) : Ev (fun n => Gw n (RH b s)) (!b || Ci s) := by
 cases b
 · obtain ⟨N, h⟩ := Lg [] (by simp)
   exact ⟨N, fun n hn => h n hn⟩
 · obtain ⟨N, h⟩ := Lg [s] (by simp)
   exact ⟨N, fun n hn => by have := h n hn; simpa [RH] using this⟩
theorem Al7 : Ci (⟨#[]⟩ : ByteArray) = false := by decide
theorem YH (a b c : Nat) : C9 (a : Int) (b : Int) (c : Int) = (decide (b ≤ a) && decide (a ≤ c)) := by
 unfold C9
 by_cases h : b ≤ a
 · have : (b : Int) ≤ (a : Int) := by omega
   simp [h, this]
 · have : ¬ (b : Int) ≤ (a : Int) := by omega
   simp [h, this]
theorem Ay3 (x : TS) (h0 : x.Cols.length ≤ 12) (v3 v4 v5 v6 v7 v10 : Bool) (lo hi : Nat) :
   Ev (fun n => Dj x n v3 v4 v5 v6 v7 (lo : Int) (hi : Int) v10) (YV v3 x.Name && (YV v10 x.Src && (Kz v4 x.Cols && (R0 v5 x.N && ((decide (lo ≤ x.Exprs.length) && decide (x.Exprs.length ≤ hi)) && LA v6 v7 x))))) := by
 obtain ⟨N1, h1⟩ := Ac5 v3 x.Name
 obtain ⟨N2, h2⟩ := Ac5 v10 x.Src
 obtain ⟨N3, h3⟩ := Lg x.Cols (by unfold MI; omega)
 refine ⟨N1 + N2 + N3, fun n hn => ?_⟩
 have h1 := h1 n (by omega)
 have h2 := h2 n (by omega)
 have h3 := h3 n (by omega)
 simp only at h1 h2 h3
 have hu : Nc x.Cols = some (decide x.Cols.Nodup) := by unfold Nc; rw [if_pos (by omega)]
 have hw1 : C9 (x.Cols.length : Int) 1 8 = (decide (1 ≤ x.Cols.length) && decide (x.Cols.length ≤ 8)) := YH x.Cols.length 1 8
 have hw2 : C9 (x.Exprs.length : Int) (lo : Int) (hi : Int) = _ := YH x.Exprs.length lo hi
 have hw3 : C9 x.N 0 1000 = (decide (0 ≤ x.N) && decide (x.N ≤ 1000)) := by
   unfold C9; cases decide (0 ≤ x.N) <;> rfl
 have d1 : decide ((x.Body.length : Int) = 0) = decide (x.Body.length = 0) := by rw [decide_eq_decide]; omega
 have d2 : decide ((x.Else.length : Int) = 0) = decide (x.Else.length = 0) := by rw [decide_eq_decide]; omega
 have d3 : decide ((x.Cols.length : Int) = 0) = decide (x.Cols.length = 0) := by rw [decide_eq_decide]; omega
 have J7 : ∀ t, HE x v7 t = some (t && (v7 || decide (x.Else.length = 0))) := fun t => by
   rw [HE, d2]; cases t <;> cases v7 <;> rfl
 have J6 : ∀ t, I6 x v6 v7 t = some (t && LA v6 v7 x) := fun t => by
   rw [I6, J7, J7, J7, d1, LA]; cases t <;> cases v6 <;> simp
 have J5 : ∀ t, Fe x v6 v7 (lo : Int) (hi : Int) t = some (t && ((decide (lo ≤ x.Exprs.length) && decide (x.Exprs.length ≤ hi)) && LA v6 v7 x)) := fun t => by
   rw [Fe, J6, J6, hw2]; cases t <;> simp
 have J4 : ∀ t, Dh x v5 v6 v7 (lo : Int) (hi : Int) t = some (t && (R0 v5 x.N && ((decide (lo ≤ x.Exprs.length) && decide (x.Exprs.length ≤ hi)) && LA v6 v7 x))) := fun t => by
   rw [Dh, J5, J5, J5, hw3, R0]; cases t <;> cases v5 <;> simp
   cases decide (0 ≤ x.N) <;> cases decide (x.N ≤ 1000) <;> simp
 have J3 : ∀ t, HM x n v4 v5 v6 v7 (lo : Int) (hi : Int) t = some (t && (Kz v4 x.Cols && (R0 v5 x.N && ((decide (lo ≤ x.Exprs.length) && decide (x.Exprs.length ≤ hi)) && LA v6 v7 x)))) := fun t => by
   rw [HM, J4, J4, J4, hw1, h3, hu, d3, Kz]
   simp only [Option.bind_some]
   generalize x.Cols.all Ci = b5
   generalize decide x.Cols.Nodup = b6
   generalize decide (1 ≤ x.Cols.length) = b7
   generalize decide (x.Cols.length ≤ 8) = b8
   cases t <;> cases v4 <;> simp
   cases b5 <;> cases b6 <;> cases b7 <;> cases b8 <;> simp
 have J2 : ∀ t, HC x n v4 v5 v6 v7 (lo : Int) (hi : Int) v10 t = some (t && ((v10 || decide (x.Src = (⟨#[]⟩ : ByteArray))) && (Kz v4 x.Cols && (R0 v5 x.N && ((decide (lo ≤ x.Exprs.length) && decide (x.Exprs.length ≤ hi)) && LA v6 v7 x))))) := fun t => by
   rw [HC, J3, J3, J3]; cases t <;> cases v10 <;> simp
 have J1 : ∀ t, I8 x n v3 v4 v5 v6 v7 (lo : Int) (hi : Int) v10 t = some (t && ((v3 || decide (x.Name = (⟨#[]⟩ : ByteArray))) && ((v10 || decide (x.Src = (⟨#[]⟩ : ByteArray))) && (Kz v4 x.Cols && (R0 v5 x.N && ((decide (lo ≤ x.Exprs.length) && decide (x.Exprs.length ≤ hi)) && LA v6 v7 x)))))) := fun t => by
   rw [I8, J2, J2, J2]; cases t <;> cases v3 <;> simp
 show Dj x n v3 v4 v5 v6 v7 (lo : Int) (hi : Int) v10 = _
 rw [Dj, h1, h2]
 simp only [Option.bind_some, J1, YV]
 generalize (Kz v4 x.Cols && (R0 v5 x.N && ((decide (lo ≤ x.Exprs.length) && decide (x.Exprs.length ≤ hi)) && LA v6 v7 x))) = t
 cases v3 <;> cases v10 <;> simp
 · cases decide (x.Name = (⟨#[]⟩ : ByteArray)) <;> cases Ci x.Src <;> simp
 · cases Ci x.Name <;> simp
 · cases Ci x.Name <;> cases Ci x.Src <;> simp
theorem AN1 (x : TS) (h0 : x.Cols.length ≤ 12) : Ev (fun n => Ee n x) (E1 x) := by
 have hw : IntKind.wrap .i64 ((x.Cols.length : Int) + 1) = ((x.Cols.length + 1 : Nat) : Int) := Bi (by omega)
 have key : ∀ (v3 v4 v5 v6 v7 v10 : Bool) (lo hi : Nat), (∀ n, Ee n x = Dj x n v3 v4 v5 v6 v7 (lo : Int) (hi : Int) v10) →
     ((YV v3 x.Name && (YV v10 x.Src && (Kz v4 x.Cols && (R0 v5 x.N && ((decide (lo ≤ x.Exprs.length) && decide (x.Exprs.length ≤ hi)) && LA v6 v7 x))))) = E1 x) → Ev (fun n => Ee n x) (E1 x) :=
   fun v3 v4 v5 v6 v7 v10 lo hi h1 h2 => h2 ▸ (Ay3 x h0 v3 v4 v5 v6 v7 v10 lo hi).of h1
 have one : (decide (1 ≤ x.Exprs.length) && decide (x.Exprs.length ≤ 1)) = decide (x.Exprs.length = 1) := by rw [Bool.eq_iff_iff]; simp; omega
 have cnt : (decide (x.Cols.length + 1 ≤ x.Exprs.length) && decide (x.Exprs.length ≤ x.Cols.length + 1)) = decide (x.Exprs.length = 1 + x.Cols.length) := by rw [Bool.eq_iff_iff]; simp; omega
 have nocols : ∀ t : Bool, (Kz false x.Cols && (R0 false x.N && (decide (x.Exprs.length = 1) && t))) = (Kz false x.Cols && (R0 false x.N && (decide (x.Exprs.length = 1 + x.Cols.length) && t))) := fun t => by
   simp only [Kz, cond_false]
   by_cases h : x.Cols.length = 0
   · simp [h]
   · simp [h]
 have nocols2 : ∀ t : Bool, (Kz false x.Cols && (R0 true x.N && (decide (x.Exprs.length = 1) && t))) = (Kz false x.Cols && (R0 true x.N && (decide (x.Exprs.length = 1 + x.Cols.length) && t))) := fun t => by
   simp only [Kz, cond_false]
   by_cases h : x.Cols.length = 0
   · simp [h]
   · simp [h]
 by_cases o1 : x.Op = 1
 · exact key true false false false false false 1 1 (fun n => by simp [Ee, C4, o1]) (by rw [one]; simp only [E1, R1, o1]; rw [nocols]; rfl)
 by_cases o2 : x.Op = 2
 · exact key true false false false false false 1 1 (fun n => by simp [Ee, C4, o2]) (by rw [one]; simp only [E1, R1, o2]; rw [nocols]; rfl)
 by_cases o3 : x.Op = 3
 · exact key false false false false false true 1 8 (fun n => by simp [Ee, C4, Ds, o3]) (by simp only [E1, R1, o3]; rfl)
 by_cases o8 : x.Op = 8
 · exact key false false false false false true 1 8 (fun n => by simp [Ee, C4, Ds, o8]) (by simp only [E1, R1, o8]; rfl)
 by_cases o4 : x.Op = 4
 · exact key true true false false false true (x.Cols.length + 1) (x.Cols.length + 1) (fun n => by simp [Ee, C4, Ds, o4, hw]) (by rw [cnt]; simp only [E1, R1, o4]; rfl)
 by_cases o5 : x.Op = 5
 · exact key true false false false false true 1 1 (fun n => by simp [Ee, C4, Ds, o5]) (by rw [one]; simp only [E1, R1, o5]; rw [nocols]; rfl)
 by_cases o6 : x.Op = 6
 · exact key true false true true false true 1 1 (fun n => by simp [Ee, C4, Ds, o6]) (by rw [one]; simp only [E1, R1, o6]; rw [nocols2]; rfl)
 by_cases o7 : x.Op = 7
 · exact key false false false true true false 1 1 (fun n => by simp [Ee, C4, Ds, o7]) (by rw [one]; simp only [E1, R1, o7]; rw [nocols]; rfl)
 by_cases o9 : x.Op = 9
 · exact key false false false false false false 1 1 (fun n => by simp [Ee, C4, Ds, o9]) (by rw [one]; simp only [E1, R1, o9]; rw [nocols]; rfl)
 by_cases o10 : x.Op = 10
 · exact key false false false false false false 1 8 (fun n => by simp [Ee, C4, Ds, o10]) (by simp only [E1, R1, o10]; rfl)
 have hf : Ev (fun n => Ee n x) false := ⟨0, fun n _ => by simp [Ee, C4, Ds, o1, o2, o3, o4, o5, o6, o7, o8, o9, o10]⟩
 have : E1 x = false := by
   have : ¬ (1 ≤ x.Op ∧ x.Op ≤ 10) := by omega
   simp [E1, this]
 rw [this]; exact hf
mutual
def okS : TS → Bool
 | ⟨op, name, src, n, cols, exprs, body, els⟩ => E1 ⟨op, name, src, n, cols, exprs, body, els⟩ && (exprs.all okE && (AR5 body && AR5 els))
def AR5 : List TS → Bool
 | [] => true
 | a :: l => okS a && AR5 l
end
theorem Am9 : ∀ l : List TS, AR5 l = l.all okS
 | [] => rfl
 | a :: l => by rw [AR5, Am9 l]; rfl
theorem V8 (x : TS) : okS x = (E1 x && (x.Exprs.all okE && (x.Body.all okS && x.Else.all okS))) := by cases x; rw [okS, Am9, Am9]
theorem Wf {l : List TS} (hl : l.length ≤ 100) {N : Nat} (h : ∀ n, N ≤ n → ∀ x, x ∈ l → EY n x = some (okS x)) : ∀ n, N + 103 ≤ n → EQ n l = some (l.all okS) := fun n hn => by
 obtain ⟨m, rfl⟩ : ∃ m, n = m + 2 := ⟨n - 2, by omega⟩
 have hf : ∀ x, x ∈ l → EM (m + 1) x = some (!okS x) := fun x hx => by
   rw [EM, Kp, h m (by omega) x hx]; rfl
 rw [EQ, M9, Jc (b := fun x => !okS x) (by omega) (by unfold MI; omega) hf]
 have e1 : (!l.any fun x => !okS x) = l.all okS := by rw [Bool.eq_iff_iff]; simp
 simp only [Option.bind_some, e1]
theorem AN2 {x : TS} (h : LimS x) : Ev (fun n => EY n x) (okS x) := by
 induction h with
 | mk x h0 h1 h2 h3 he hb hc ihb ihc =>
   obtain ⟨N1, g1⟩ := AN1 x h0
   obtain ⟨N2, g2⟩ := Ev.all (l := x.Exprs) (f := fun n a => CU n a) (r := okE) (fun a ha => Ao2 (he a ha))
   obtain ⟨N3, g3⟩ := Ev.all (l := x.Body) (f := fun n a => EY n a) (r := okS) ihb
   obtain ⟨N4, g4⟩ := Ev.all (l := x.Else) (f := fun n a => EY n a) (r := okS) ihc
   refine ⟨N1 + N2 + N3 + N4 + 120, fun n hn => ?_⟩
   obtain ⟨m, rfl⟩ : ∃ m, n = m + 1 := ⟨n - 1, by omega⟩
   have g1 := g1 m (by omega)
   simp only at g1
   have hf : ∀ a, a ∈ x.Exprs → Ke m a = some (!okE a) := fun a ha => by
     rw [Ke, g2 m (by omega) a ha]; rfl
   show EY (m + 1) x = _
   rw [EY, Pa, g1, Option.bind_some, FJ (b := fun x => !okE x) (by omega) (by unfold MI; omega) hf]
   have e1 : (!x.Exprs.any fun x => !okE x) = x.Exprs.all okE := by rw [Bool.eq_iff_iff]; simp
   simp only [Option.bind_some, e1, KJ, KB, Wf (by omega) g3 m (by omega), Wf (by omega) g4 m (by omega)]
   rw [V8]
   cases E1 x <;> cases x.Exprs.all okE <;> cases x.Body.all okS <;> simp
theorem AK4 {l : List TS} (hl : l.length ≤ 100) (h : ∀ x, x ∈ l → LimS x) : Ev (fun n => EQ n l) (l.all okS) := by
 obtain ⟨N, g⟩ := Ev.all (l := l) (f := fun n a => EY n a) (r := okS) (fun a ha => AN2 (h a ha))
 exact ⟨N + 103, Wf hl g⟩
end Go.Ax
set_option linter.unusedVariables false
set_option linter.unusedSimpArgs false
namespace Go.Ax
theorem Am6 (s : ByteArray) (c : Int) (hs : s.size ≤ 100) {n : Nat} (hn : 101 ≤ n) : F8 n s c = some ((Ec s).any fun x => decide (x = c)) := by
 have hl := SN s
 unfold F8
 have := B0 (l := Ec s) (F := fun m (_ : Unit) v => EJ s c m v) (g := fun _ _ x => if decide (x = c) then .inl (some true) else .inr ()) (fin := fun _ => some false)
   (fun m i x u hx => by
     have hlt := BC hx
     show EJ s c (m + 1) (i : Int) = _
     rw [EJ, J8, Ab9, hx]
     have h1 : (i : Int) < (s.size : Int) := by omega
     simp only [h1, decide_true, cond_true, Option.bind_some]
     cases decide (x = c)
     · simp only [cond_false, Bool.false_eq_true, if_false]; rw [Bi (by omega)]
     · rfl)
   (fun m u => by
     show EJ s c (m + 1) _ = _
     rw [EJ, J8, hl]; simp) (m := n) (by omega) ()
 rw [this]
 have key : ∀ (l : List Int) (i : Nat) (u : Unit), runL (ρ := Bool) (fun _ _ x => if decide (x = c) then .inl (some true) else .inr ()) (fun _ => some false) l i u = some (l.any fun x => decide (x = c)) := by
   intro l
   induction l with
   | nil => intro i u; rfl
   | cons x r ih =>
     intro i u
     rw [runL, List.any_cons]
     cases decide (x = c)
     · simp only [Bool.false_eq_true, if_false, ih, Bool.false_or]
     · rfl
 exact key _ _ _
theorem Rt {α ρ : Type} (p : α → Bool) (v t : Option ρ) : ∀ (l : List α) (i : Nat) (u : Unit), runL (fun _ _ x => if p x then .inl v else .inr ()) (fun _ => t) l i u = if l.any p then v else t
 | [], i, u => rfl
 | x :: r, i, u => by
   rw [runL, List.any_cons]
   cases h : p x
   · simp only [Bool.false_eq_true, if_false, Bool.false_or]; exact Rt p v t r _ _
   · simp
def GD (pre : List ByteArray) : List ByteArray → Bool
 | [] => true
 | x :: r => !(pre.any fun y => decide (y = x)) && GD (pre ++ [x]) r
theorem Sr : ∀ (l pre : List ByteArray), GD pre l = true ↔ l.Nodup ∧ ∀ x, x ∈ l → ¬ x ∈ pre
 | [], pre => by simp [GD]
 | x :: r, pre => by
   rw [GD, Bool.and_eq_true, Sr r, List.nodup_cons]
   have e : (!(pre.any fun y => decide (y = x))) = true ↔ ¬ x ∈ pre := by
     rw [Bool.not_eq_true', List.any_eq_false]
     constructor
     · intro h hm; exact h x hm (by simp)
     · intro h y hy he
       have := of_decide_eq_true he
       subst this; exact h hy
   rw [e]
   constructor
   · rintro ⟨h1, h2, h3⟩
     refine ⟨⟨fun hm => h3 x hm (by simp), h2⟩, fun y hy => ?_⟩
     rcases List.mem_cons.1 hy with rfl | hy
     · exact h1
     · exact fun hm => h3 y hy (by simp [hm])
   · rintro ⟨⟨h1, h2⟩, h3⟩
     refine ⟨h3 x (by simp), h2, fun y hy hm => ?_⟩
     rcases List.mem_append.1 hm with hm | hm
     · exact h3 y (by simp [hy]) hm
     · have : y = x := by simpa using hm
       subst this; exact h1 hy
theorem Sh (l : List ByteArray) : GD [] l = decide l.Nodup := by
 rw [Bool.eq_iff_iff, Sr, decide_eq_true_iff]; simp
theorem AK1 {x : TS} {s : List TS → Option Bool} {n : Nat} (h0 : x.Cols.length ≤ 12) (hn : 100 ≤ n) (hf : ∀ c, c ∈ x.Cols → Du n c = some (Ci c)) {t : Option Bool} (ht : FZ x s n = t) :
   CF x s n = if (x.Cols.all Ci && decide x.Cols.Nodup) = true then t else some false := by
 have inner : ∀ (i : Nat) (c : ByteArray) (rec : Int → Option Bool), x.Cols[i]? = some c → Cr x (i : Int) rec n 0 = if ((x.Cols.take i).any fun y => decide (y = c)) = true then some false else rec ((i + 1 : Nat) : Int) := by
   intro i c rec hc
   have hi := BC hc
   have hlen : (x.Cols.take i).length = i := by rw [List.length_take]; omega
   have := B0 (l := x.Cols.take i) (F := fun m (_ : Unit) v => Cr x (i : Int) rec m v) (g := fun _ _ y => if decide (y = c) then .inl (some false) else .inr ()) (fin := fun _ => rec ((i + 1 : Nat) : Int))
     (fun m k y u hy => by
       have hlt := BC hy
       have hy' : x.Cols[k]? = some y := by rw [List.getElem?_take] at hy; split at hy <;> first | exact hy | cases hy
       show Cr x (i : Int) rec (m + 1) (k : Int) = _
       rw [Cr, G5, Bk, Bk, hy', hc]
       have h1 : (k : Int) < (i : Int) := by omega
       simp only [h1, decide_true, cond_true, Option.bind_some]
       cases decide (y = c)
       · simp only [cond_false, Bool.false_eq_true, if_false]; rw [Bi (by omega)]
       · rfl)
     (fun m u => by
       show Cr x (i : Int) rec (m + 1) _ = _
       rw [Cr, G5, hlen]
       simp only [Int.lt_irrefl, decide_false, cond_false]
       rw [Bi (by omega)]) (m := n) (by omega) ()
   rw [this, Rt]
 unfold CF
 have := B0 (l := x.Cols) (F := fun m (_ : Unit) v => CA x s n m v) (g := fun _ i c => if (Ci c && !((x.Cols.take i).any fun y => decide (y = c))) = true then .inr () else .inl (some false)) (fin := fun _ => t)
   (fun m i c u hc => by
     have hlt := BC hc
     show CA x s n (m + 1) (i : Int) = _
     rw [CA, GX, Bk, hc]
     have h1 : (i : Int) < (x.Cols.length : Int) := by omega
     simp only [h1, decide_true, cond_true, Option.bind_some, hf c (List.mem_of_getElem? hc), inner i c _ hc]
     cases Ci c
     · rfl
     · cases ((x.Cols.take i).any fun y => decide (y = c)) <;> rfl)
   (fun m u => by
     show CA x s n (m + 1) _ = _
     rw [CA, GX]; simpa using ht) (m := n) (by omega) ()
 rw [this]
 have key : ∀ (r pre : List ByteArray) (i : Nat) (u : Unit), x.Cols = pre ++ r → pre.length = i → runL (fun _ i c => if (Ci c && !((x.Cols.take i).any fun y => decide (y = c))) = true then .inr () else .inl (some false)) (fun _ => t) r i u = if (r.all Ci && GD pre r) = true then t else some false := by
   intro r
   induction r with
   | nil => intro pre i u _ _; simp [runL, GD]
   | cons c r ih =>
     intro pre i u he hi
     have htake : x.Cols.take i = pre := by rw [he, ← hi, List.take_left]
     rw [runL, htake, List.all_cons, GD]
     cases hfc : Ci c
     · simp
     · cases hp : (pre.any fun y => decide (y = c))
       · simp only [Bool.not_false, Bool.and_self, if_true, Bool.true_and]
         exact ih (pre ++ [c]) (i + 1) () (by rw [he]; simp) (by simp [hi])
       · simp
 rw [key x.Cols [] 0 () (by simp) rfl, Sh]
theorem AB9 {x : TS} {s : List TS → Option Bool} {n : Nat} (h1 : x.Exprs.length ≤ 10) (hn : 100 ≤ n) (hf : ∀ c, c ∈ x.Exprs → BE n c = some (okE c)) {b1 b2 : Bool} (hb : s x.Body = some b1) (hc : s x.Else = some b2) :
   Ft x s n = some (x.Exprs.all okE && (b1 && b2)) := by
 unfold Ft
 have h6 : GQ x s = some (b1 && b2) := by
   rw [GQ, hb, hc]; cases b1 <;> rfl
 have := B0 (l := x.Exprs) (F := fun m (_ : Unit) v => CB x s n m v) (g := fun _ i c => if (!okE c) = true then .inl (some false) else .inr ()) (fin := fun _ => some (b1 && b2))
   (fun m i c u hc => by
     have hlt := BC hc
     show CB x s n (m + 1) (i : Int) = _
     rw [CB, G8, Bk, hc]
     have h1 : (i : Int) < (x.Exprs.length : Int) := by omega
     simp only [h1, decide_true, cond_true, Option.bind_some, hf c (List.mem_of_getElem? hc)]
     cases okE c
     · rfl
     · simp only [Bool.not_true, cond_false, Bool.false_eq_true, if_false]; rw [Bi (by omega)])
   (fun m u => by
     show CB x s n (m + 1) _ = _
     rw [CB, G8]; simpa using h6) (m := n) (by omega) ()
 rw [this, Rt]
 have e1 : (x.Exprs.any fun c => !okE c) = !x.Exprs.all okE := by rw [Bool.eq_iff_iff]; simp
 rw [e1]
 cases x.Exprs.all okE <;> simp
theorem AZ4 {x : TS} {s : List TS → Option Bool} {n : Nat} (h0 : x.Cols.length ≤ 12) {t : Bool} (ht : Ft x s n = some t) : FZ x s n = some (R1 x.Op x && t) := by
 have hw : IntKind.wrap .i64 ((1 : Int) + (x.Cols.length : Int)) = ((1 + x.Cols.length : Nat) : Int) := by
   have hh := EL (n := (1 : Int) + (x.Cols.length : Int)) (by omega) (by omega)
   rw [hh]; omega
 have e1 : decide ((x.Exprs.length : Int) < 1) = !decide (1 ≤ x.Exprs.length) := by rw [Bool.eq_iff_iff, decide_eq_true_iff, Bool.not_eq_true', decide_eq_false_iff_not]; omega
 have e2 : decide ((8 : Int) < (x.Exprs.length : Int)) = !decide (x.Exprs.length ≤ 8) := by rw [Bool.eq_iff_iff, decide_eq_true_iff, Bool.not_eq_true', decide_eq_false_iff_not]; omega
 have e3 : decide ((x.Exprs.length : Int) = ((1 + x.Cols.length : Nat) : Int)) = decide (x.Exprs.length = 1 + x.Cols.length) := by rw [decide_eq_decide]; omega
 have J4 : ∀ v, E6 x s n v = some ((bif v then decide (1 ≤ x.Exprs.length) && decide (x.Exprs.length ≤ 8) else decide (x.Exprs.length = 1 + x.Cols.length)) && t) := fun v => by
   simp only [E6, FX, hw, e1, e2, e3, ht]
   generalize decide (1 ≤ x.Exprs.length) = b1
   generalize decide (x.Exprs.length ≤ 8) = b2
   generalize decide (x.Exprs.length = 1 + x.Cols.length) = b3
   clear ht
   revert v b1 b2 b3 t; decide
 rw [FZ, J4, J4, R1]
 have : maO x.Op = (decide (x.Op = 3) || (decide (x.Op = 8) || decide (x.Op = 10))) := by rw [Bool.eq_iff_iff]; simp [maO]
 rw [this]
 cases decide (x.Op = 3) <;> cases decide (x.Op = 8) <;> rfl
theorem AY4 {x : TS} {s : List TS → Option Bool} {n : Nat} {v2 : ByteArray} {co nu bo ot : Bool} (g1 : F8 n v2 99 = some co) (g2 : F8 n v2 78 = some nu) (g3 : F8 n v2 98 = some bo) (g4 : F8 n v2 101 = some ot) {t : Bool} (ht : CF x s n = some t) :
   C1 x s n v2 = some (((co == decide (0 < x.Cols.length)) && decide (x.Cols.length ≤ 8)) && (((nu || decide (x.N = 0)) && (decide (0 ≤ x.N) && decide (x.N ≤ 1000))) && (LA bo ot x && t))) := by
 have e1 : decide ((0 : Int) < (x.Cols.length : Int)) = decide (0 < x.Cols.length) := by rw [decide_eq_decide]; omega
 have e2 : decide ((8 : Int) < (x.Cols.length : Int)) = !decide (x.Cols.length ≤ 8) := by rw [Bool.eq_iff_iff, decide_eq_true_iff, Bool.not_eq_true', decide_eq_false_iff_not]; omega
 have e3 : decide (x.N < 0) = !decide (0 ≤ x.N) := by rw [Bool.eq_iff_iff]; simp
 have e4 : decide ((1000 : Int) < x.N) = !decide (x.N ≤ 1000) := by rw [Bool.eq_iff_iff]; simp
 have e5 : decide ((0 : Int) < (x.Body.length : Int)) = !decide (x.Body.length = 0) := by rw [Bool.eq_iff_iff, decide_eq_true_iff, Bool.not_eq_true', decide_eq_false_iff_not]; omega
 have e6 : decide ((0 : Int) < (x.Else.length : Int)) = !decide (x.Else.length = 0) := by rw [Bool.eq_iff_iff, decide_eq_true_iff, Bool.not_eq_true', decide_eq_false_iff_not]; omega
 simp only [C1, g1, g2, g3, g4, ht, Option.bind_some, e1, e2, e3, e4, e5, e6, LA]
 generalize decide (0 < x.Cols.length) = a1
 generalize decide (x.Cols.length ≤ 8) = a2
 generalize decide (x.N = 0) = a3
 generalize decide (0 ≤ x.N) = a4
 generalize decide (x.N ≤ 1000) = a5
 generalize decide (x.Body.length = 0) = a6
 generalize decide (x.Else.length = 0) = a7
 cases co == a1 <;> cases a2 <;> cases nu <;> cases a3 <;> cases a4 <;> cases a5 <;> (try rfl) <;> cases bo <;> cases ot <;> cases a6 <;> cases a7 <;> cases t <;> rfl
theorem Pi {l : List TS} (hl : l.length ≤ 100) {N : Nat} (h : ∀ n, N ≤ n → ∀ x, x ∈ l → Dt n x = some (okS x)) : ∀ n, N + 103 ≤ n → B7 n l = some (l.all okS) := fun n hn => by
 obtain ⟨m, rfl⟩ : ∃ m, n = m + 1 := ⟨n - 1, by omega⟩
 rw [B7, HT]
 have := B0 (l := l) (F := fun k (_ : Unit) v => Ca l (Dt m) k v) (g := fun _ i c => if (!okS c) = true then .inl (some false) else .inr ()) (fin := fun _ => some true)
   (fun k i c u hc => by
     have hlt := BC hc
     show Ca l _ (k + 1) (i : Int) = _
     rw [Ca, Gd, Bk, hc]
     have h1 : (i : Int) < (l.length : Int) := by omega
     simp only [h1, decide_true, cond_true, Option.bind_some, h m (by omega) c (List.mem_of_getElem? hc)]
     cases okS c
     · rfl
     · simp only [Bool.not_true, cond_false, Bool.false_eq_true, if_false]; rw [Bi (by omega)])
   (fun k u => by
     show Ca l _ (k + 1) _ = _
     rw [Ca, Gd]; simp) (m := m) (by omega) ()
 rw [this, Rt]
 have e1 : (l.any fun c => !okS c) = !l.all okS := by rw [Bool.eq_iff_iff]; simp
 rw [e1]
 cases l.all okS <;> rfl
theorem Av6 {x : TS} (h : LimS x) : Ev (fun n => Dt n x) (okS x) := by
 induction h with
 | mk x h0 h1 h2 h3 he hb hc ihb ihc =>
   obtain ⟨N1, g1⟩ := GW x.Name
   obtain ⟨N1', g1'⟩ := GW x.Src
   obtain ⟨N1'', g1''⟩ := Ev.all (l := x.Cols) (f := fun n a => Du n a) (r := Ci) (fun a _ => GW a)
   obtain ⟨N2, g2⟩ := Ev.all (l := x.Exprs) (f := fun n a => BE n a) (r := okE) (fun a ha => Yh (he a ha))
   obtain ⟨N3, g3⟩ := Ev.all (l := x.Body) (f := fun n a => Dt n a) (r := okS) ihb
   obtain ⟨N4, g4⟩ := Ev.all (l := x.Else) (f := fun n a => Dt n a) (r := okS) ihc
   refine ⟨N1 + N1' + N1'' + N2 + N3 + N4 + 220, fun n hn => ?_⟩
   obtain ⟨m, rfl⟩ : ∃ m, n = m + 1 := ⟨n - 1, by omega⟩
   have g1 := g1 m (by omega)
   have g1' := g1' m (by omega)
   simp only at g1 g1'
   have g5 := AB9 (s := B7 m) (n := m) h1 (by omega) (g2 m (by omega)) (Pi (by omega) g3 m (by omega)) (Pi (by omega) g4 m (by omega))
   have gj3 := AZ4 h0 g5
   have gj2 := AK1 h0 (by omega) (g1'' m (by omega)) gj3
   have gj2' : CF x (B7 m) m = some ((x.Cols.all Ci && decide x.Cols.Nodup) && (R1 x.Op x && (x.Exprs.all okE && (x.Body.all okS && x.Else.all okS)))) := by
     rw [gj2]
     cases (x.Cols.all Ci && decide x.Cols.Nodup) <;> simp
   show Dt (m + 1) x = _
   rw [Dt, IR, V8]
   by_cases hop : 1 ≤ x.Op ∧ x.Op ≤ 10
   · have o1 : ¬ x.Op < 1 := by omega
     have o2 : ¬ 10 < x.Op := by omega
     simp only [o1, o2, decide_false, cond_false, Fb]
     -- the fields' letters
     have fin : ∀ (v2 : ByteArray), v2.size ≤ 100 → ((Ec v2).any fun y => decide (y = 110)) = nmO x.Op → ((Ec v2).any fun y => decide (y = 115)) = srO x.Op → ((Ec v2).any fun y => decide (y = 99)) = coO x.Op → ((Ec v2).any fun y => decide (y = 78)) = nuO x.Op → ((Ec v2).any fun y => decide (y = 98)) = boO x.Op → ((Ec v2).any fun y => decide (y = 101)) = otO x.Op →
         ((F8 m v2 (110 : Int)).bind fun v3 => (bif (!(v3 == (!decide (x.Name = (⟨#[]⟩ : ByteArray))))) then some false else ((F8 m v2 (115 : Int)).bind fun v4 => (bif (!(v4 == (!decide (x.Src = (⟨#[]⟩ : ByteArray))))) then some false else ((F8 m v2 (110 : Int)).bind fun v5 => (bif v5 then ((Du m x.Name).bind fun v6 => (bif (!v6) then some false else ((F8 m v2 (115 : Int)).bind fun v7 => (bif v7 then ((Du m x.Src).bind fun v8 => (bif (!v8) then some false else (C1 x (B7 m) m v2))) else (C1 x (B7 m) m v2))))) else ((F8 m v2 (115 : Int)).bind fun v9 => (bif v9 then ((Du m x.Src).bind fun v10 => (bif (!v10) then some false else (C1 x (B7 m) m v2))) else (C1 x (B7 m) m v2))))))))) = some (E1 x && (x.Exprs.all okE && (x.Body.all okS && x.Else.all okS))) := by
       intro v2 hv q1 q2 q3 q4 q5 q6
       have i1 := Am6 v2 110 hv (n := m) (by omega)
       have i2 := Am6 v2 115 hv (n := m) (by omega)
       have i3 := Am6 v2 99 hv (n := m) (by omega)
       have i4 := Am6 v2 78 hv (n := m) (by omega)
       have i5 := Am6 v2 98 hv (n := m) (by omega)
       have i6 := Am6 v2 101 hv (n := m) (by omega)
       rw [q1] at i1; rw [q2] at i2; rw [q3] at i3; rw [q4] at i4; rw [q5] at i5; rw [q6] at i6
       have gj1 := AY4 i3 i4 i5 i6 gj2'
       simp only [i1, i2, g1, g1', gj1, Option.bind_some]
       have hN : Ci x.Name = true → decide (x.Name = (⟨#[]⟩ : ByteArray)) = false := fun h => decide_eq_false fun e => by rw [e, Al7] at h; cases h
       have hS : Ci x.Src = true → decide (x.Src = (⟨#[]⟩ : ByteArray)) = false := fun h => decide_eq_false fun e => by rw [e, Al7] at h; cases h
       have ecols : (((coO x.Op == decide (0 < x.Cols.length)) && decide (x.Cols.length ≤ 8)) && (x.Cols.all Ci && decide x.Cols.Nodup)) = Kz (coO x.Op) x.Cols := by
         unfold Kz
         cases coO x.Op
         · by_cases h : x.Cols.length = 0
           · have : x.Cols = [] := List.eq_nil_of_length_eq_zero h
             simp [this]
           · have : 0 < x.Cols.length := by omega
             simp [h, this]
         · by_cases h : 0 < x.Cols.length
           · have : 1 ≤ x.Cols.length := h
             simp [h, this]
           · have : ¬ 1 ≤ x.Cols.length := h
             simp [h, this]
       have enum : ((nuO x.Op || decide (x.N = 0)) && (decide (0 ≤ x.N) && decide (x.N ≤ 1000))) = R0 (nuO x.Op) x.N := by
         unfold R0
         cases nuO x.Op
         · by_cases h : x.N = 0
           · simp [h]
           · simp [h]
         · simp
       have hshape : E1 x = (YV (nmO x.Op) x.Name && (YV (srO x.Op) x.Src && (Kz (coO x.Op) x.Cols && (R0 (nuO x.Op) x.N && (R1 x.Op x && LA (boO x.Op) (otO x.Op) x))))) := by simp [E1, hop]
       rw [hshape, ← ecols, ← enum]
       unfold YV
       generalize Ci x.Name = a1 at *
       generalize Ci x.Src = a2 at *
       generalize decide (x.Name = (⟨#[]⟩ : ByteArray)) = a3 at *
       generalize decide (x.Src = (⟨#[]⟩ : ByteArray)) = a4 at *
       generalize ((coO x.Op == decide (0 < x.Cols.length)) && decide (x.Cols.length ≤ 8)) = a5
       generalize ((nuO x.Op || decide (x.N = 0)) && (decide (0 ≤ x.N) && decide (x.N ≤ 1000))) = a6
       generalize LA (boO x.Op) (otO x.Op) x = a7
       generalize (x.Cols.all Ci && decide x.Cols.Nodup) = a8
       generalize R1 x.Op x = a9
       generalize (x.Exprs.all okE && (x.Body.all okS && x.Else.all okS)) = a10
       have fold : (a5 && (a6 && (a7 && (a8 && (a9 && a10))))) = ((a5 && a8) && (a6 && (a9 && a7)) && a10) := by
         cases a5 <;> cases a6 <;> cases a7 <;> cases a8 <;> cases a9 <;> cases a10 <;> rfl
       rw [fold]
       generalize ((a5 && a8) && (a6 && (a9 && a7))) = b1
       cases nmO x.Op <;> cases srO x.Op <;> cases a1 <;> cases a2 <;> cases a3 <;> cases a4 <;> simp at hN hS ⊢
     have cases10 : x.Op = 1 ∨ x.Op = 2 ∨ x.Op = 3 ∨ x.Op = 4 ∨ x.Op = 5 ∨ x.Op = 6 ∨ x.Op = 7 ∨ x.Op = 8 ∨ x.Op = 9 ∨ x.Op = 10 := by omega
     rcases cases10 with o | o | o | o | o | o | o | o | o | o
     all_goals (rw [o] at fin ⊢)
     · exact fin ⟨#[110]⟩ (by decide) (by decide) (by decide) (by decide) (by decide) (by decide) (by decide)
     · exact fin ⟨#[110]⟩ (by decide) (by decide) (by decide) (by decide) (by decide) (by decide) (by decide)
     · exact fin ⟨#[115]⟩ (by decide) (by decide) (by decide) (by decide) (by decide) (by decide) (by decide)
     · exact fin ⟨#[110, 115, 99]⟩ (by decide) (by decide) (by decide) (by decide) (by decide) (by decide) (by decide)
     · exact fin ⟨#[110, 115]⟩ (by decide) (by decide) (by decide) (by decide) (by decide) (by decide) (by decide)
     · exact fin ⟨#[110, 115, 78, 98]⟩ (by decide) (by decide) (by decide) (by decide) (by decide) (by decide) (by decide)
     · exact fin ⟨#[98, 101]⟩ (by decide) (by decide) (by decide) (by decide) (by decide) (by decide) (by decide)
     · exact fin ⟨#[115]⟩ (by decide) (by decide) (by decide) (by decide) (by decide) (by decide) (by decide)
     · exact fin ⟨#[]⟩ (by decide) (by decide) (by decide) (by decide) (by decide) (by decide) (by decide)
     · exact fin ⟨#[]⟩ (by decide) (by decide) (by decide) (by decide) (by decide) (by decide) (by decide)
   · have : E1 x = false := by simp [E1, hop]
     rw [this, Bool.false_and]
     by_cases o1 : x.Op < 1
     · simp [o1, Fb]
     · have o2 : 10 < x.Op := by omega
       simp [o1, o2, Fb]
theorem Ao8 {l : List TS} (hl : l.length ≤ 100) (h : ∀ x, x ∈ l → LimS x) : Ev (fun n => B7 n l) (l.all okS) := by
 obtain ⟨N, g⟩ := Ev.all (l := l) (f := fun n a => Dt n a) (r := okS) (fun a ha => Av6 (h a ha))
 exact ⟨N + 103, Pi hl g⟩
end Go.Ax
set_option linter.unusedVariables false
set_option linter.unusedSimpArgs false
namespace Go.Ax
def LZ (c : T_api_Column) : Bool := decide (1 ≤ c.Kind) && decide (c.Kind ≤ 3)
def ZG (p : TP) (names : List ByteArray) : Bool :=
 bif decide (p.From = (⟨#[]⟩ : ByteArray)) then decide (p.At = (⟨#[]⟩ : ByteArray)) || names.any (fun x => decide (p.At = x)) else Ci p.From && (decide (names.length = 0) && decide (p.At = (⟨#[]⟩ : ByteArray)))
def AL4 (p : TP) (names : List ByteArray) : Bool :=
 Ci p.Name && (decide (names.length ≤ 8) && (names.all Ci && (decide names.Nodup && ((decide (1 ≤ p.Fuel) && decide (p.Fuel ≤ 2000)) && ZG p names))))
def SZ (p : TP) : Bool := p.Params.all LZ && AL4 p (p.Params.map (·.Name))
theorem AM3 (p : TP) (hp : p.Params.length ≤ 12) : Ev (fun n => OC n p) (SZ p) := by
 obtain ⟨N1, h1⟩ := Lg [p.Name] (by simp)
 obtain ⟨N2, h2⟩ := Lg [p.From] (by simp)
 obtain ⟨N3, h3⟩ := Lg (p.Params.map (·.Name)) (by simp [MI]; omega)
 refine ⟨N1 + N2 + N3 + 20, fun n hn => ?_⟩
 have h1 := h1 n (by omega)
 have h2 := h2 n (by omega)
 have h3 := h3 n (by omega)
 simp only [List.all_cons, List.all_nil, Bool.and_true] at h1 h2 h3
 show OC n p = _
 unfold OC
 have := B0 (l := p.Params) (F := fun m s v => Fp p n m s v) (g := fun s _ c => if LZ c = true then (match Ib 16 s [c.Name] with | some s' => .inr s' | none => .inl none) else .inl (some false))
   (fin := fun s => (Gw n ([p.Name])).bind fun v6 => (bif (!v6) then (GO p n s true) else (GO p n s (decide ((8 : Int) < (s.length : Int))))))
   (fun m i c s hc => by
     have hlt := BC hc
     show Fp p n (m + 1) s (i : Int) = _
     rw [Fp, Lc, Bk, hc]
     have h1 : (i : Int) < (p.Params.length : Int) := by omega
     have hk : C9 c.Kind 1 3 = LZ c := by unfold C9 LZ; cases decide ((1 : Int) ≤ c.Kind) <;> rfl
     simp only [h1, decide_true, cond_true, Option.bind_some, hk]
     cases LZ c
     · rfl
     · simp only [Bool.not_true, cond_false, if_true]
       cases Ib 16 s [c.Name] with
       | none => rfl
       | some s' => simp only [Option.bind_some]; rw [Bi (by omega)])
   (fun m s => by
     show Fp p n (m + 1) s _ = _
     rw [Fp, Lc]; simp) (m := n) (by omega) []
 rw [this]
 have key : ∀ (r : List T_api_Column) (fin : List ByteArray → Option Bool) (s : List ByteArray) (i : Nat), s.length + r.length ≤ 12 → runL (fun s _ c => if LZ c = true then (match Ib 16 s [c.Name] with | some s' => .inr s' | none => .inl none) else .inl (some false)) fin r i s = if r.all LZ = true then fin (s ++ r.map (·.Name)) else some false := by
   intro r fin
   induction r with
   | nil => intro s i _; simp [runL]
   | cons c r ih =>
     intro s i hs
     rw [runL]
     simp only [List.length_cons] at hs
     have ha : Ib 16 s [c.Name] = some (s ++ [c.Name]) := by unfold Ib; rw [if_pos (by simp; omega)]
     cases hk : LZ c
     · simp [hk]
     · simp only [if_true, ha, List.all_cons, hk, Bool.true_and]
       rw [ih _ _ (by simp; omega)]
       simp
 rw [key _ _ _ _ (by simpa using hp)]
 unfold SZ
 cases p.Params.all LZ
 · rfl
 simp only [if_true, List.nil_append, Bool.true_and]
 have hlen : (p.Params.map (·.Name)).length ≤ 12 := by simpa using hp
 generalize p.Params.map (·.Name) = names at *
 have hu : Nc names = some (decide names.Nodup) := by unfold Nc; rw [if_pos (by omega)]
 have hc := Xz p.At (l := names) (n := n) (by omega) (by unfold MI; omega)
 have hw : C9 p.Fuel 1 2000 = (decide (1 ≤ p.Fuel) && decide (p.Fuel ≤ 2000)) := by
   unfold C9; cases decide (1 ≤ p.Fuel) <;> rfl
 have d1 : decide ((names.length : Int) = 0) = decide (names.length = 0) := by rw [decide_eq_decide]; omega
 have d2 : decide ((8 : Int) < (names.length : Int)) = !decide (names.length ≤ 8) := by rw [Bool.eq_iff_iff, decide_eq_true_iff, Bool.not_eq_true', decide_eq_false_iff_not]; omega
 have J0 : ∀ t, Ja p n names t = some (!t && ZG p names) := fun t => by
   simp only [Ja, I3, h2, hc, d1, Option.bind_some, ZG]
   generalize (names.any fun x => decide (p.At = x)) = a1
   cases t <;> cases decide (p.From = (⟨#[]⟩ : ByteArray)) <;> cases Ci p.From <;> cases decide (names.length = 0) <;> cases decide (p.At = (⟨#[]⟩ : ByteArray)) <;> simp
 have J4 : ∀ t, I1 p n names t = some (!t && ((decide (1 ≤ p.Fuel) && decide (p.Fuel ≤ 2000)) && ZG p names)) := fun t => by
   rw [I1, J0, J0, hw]; cases t <;> simp
 have J3 : ∀ t, I9 p n names t = some (!t && (decide names.Nodup && ((decide (1 ≤ p.Fuel) && decide (p.Fuel ≤ 2000)) && ZG p names))) := fun t => by
   rw [I9, J4, hu]; simp only [Option.bind_some, J4]; cases t <;> simp
 have J2 : ∀ t, GO p n names t = some (!t && (names.all Ci && (decide names.Nodup && ((decide (1 ≤ p.Fuel) && decide (p.Fuel ≤ 2000)) && ZG p names)))) := fun t => by
   rw [GO, J3, h3]; simp only [Option.bind_some, J3]; cases t <;> simp
 rw [h1]
 simp only [Option.bind_some, J2, d2, AL4]
 cases Ci p.Name <;> simp
theorem At5 (p : TP) (hp : p.Params.length ≤ 12) : Ev (fun n => JB n p) (SZ p) := by
 obtain ⟨N1, h1⟩ := GW p.Name
 obtain ⟨N2, h2⟩ := GW p.From
 obtain ⟨N3, h3⟩ := Ev.all (l := p.Params) (f := fun n c => Du n c.Name) (r := fun c => Ci c.Name) (fun c _ => GW c.Name)
 refine ⟨N1 + N2 + N3 + 20, fun n hn => ?_⟩
 have h1 := h1 n (by omega)
 have h2 := h2 n (by omega)
 have h3 := h3 n (by omega)
 simp only at h1 h2
 show JB n p = _
 unfold JB
 have inner : ∀ (i : Nat) (c : T_api_Column) (rec : Bool → Int → Option Bool) (v : Bool), p.Params[i]? = some c → Cq p (i : Int) rec v n 0 = if ((p.Params.take i).any fun y => decide (y.Name = c.Name)) = true then some false else rec v ((i + 1 : Nat) : Int) := by
   intro i c rec v hc
   have hi := BC hc
   have hlen : (p.Params.take i).length = i := by rw [List.length_take]; omega
   have := B0 (l := p.Params.take i) (F := fun m (_ : Unit) w => Cq p (i : Int) rec v m w) (g := fun _ _ y => if decide (y.Name = c.Name) then .inl (some false) else .inr ()) (fin := fun _ => rec v ((i + 1 : Nat) : Int))
     (fun m k y u hy => by
       have hlt := BC hy
       have hy' : p.Params[k]? = some y := by rw [List.getElem?_take] at hy; split at hy <;> first | exact hy | cases hy
       show Cq p (i : Int) rec v (m + 1) (k : Int) = _
       rw [Cq, G7, Bk, Bk, hy', hc]
       have h1 : (k : Int) < (i : Int) := by omega
       simp only [h1, decide_true, cond_true, Option.bind_some]
       cases decide (y.Name = c.Name)
       · simp only [cond_false, Bool.false_eq_true, if_false]; rw [Bi (by omega)]
       · rfl)
     (fun m u => by
       show Cq p (i : Int) rec v (m + 1) _ = _
       rw [Cq, G7, hlen]
       simp only [Int.lt_irrefl, decide_false, cond_false]
       rw [Bi (by omega)]) (m := n) (by omega) ()
   rw [this, Rt]
 have := B0 (l := p.Params) (F := fun m s v => CC p n m s v) (g := fun s i c => if (Ci c.Name && (LZ c && !((p.Params.take i).any fun y => decide (y.Name = c.Name)))) = true then .inr (s || decide (p.At = c.Name)) else .inl (some false))
   (fin := fun s => GN p n s)
   (fun m i c s hc => by
     have hlt := BC hc
     show CC p n (m + 1) s (i : Int) = _
     rw [CC, Hc, Bk, hc]
     have h1 : (i : Int) < (p.Params.length : Int) := by omega
     have e1 : decide (c.Kind < 1) = !decide (1 ≤ c.Kind) := by rw [Bool.eq_iff_iff, decide_eq_true_iff, Bool.not_eq_true', decide_eq_false_iff_not]; omega
     have e2 : decide ((3 : Int) < c.Kind) = !decide (c.Kind ≤ 3) := by rw [Bool.eq_iff_iff, decide_eq_true_iff, Bool.not_eq_true', decide_eq_false_iff_not]; omega
     simp only [h1, decide_true, cond_true, Option.bind_some, h3 c (List.mem_of_getElem? hc), GH, GR, GV, Bk, hc, e1, e2, inner i c _ _ hc, LZ]
     by_cases hk1 : 1 ≤ c.Kind <;> by_cases hk2 : c.Kind ≤ 3 <;> cases Ci c.Name <;> cases s <;> cases ((p.Params.take i).any fun y => decide (y.Name = c.Name)) <;> simp [hk1, hk2])
   (fun m s => by
     show CC p n (m + 1) s _ = _
     rw [CC, Hc]; simp) (m := n) (by omega) (decide (p.At = (⟨#[]⟩ : ByteArray)))
 rw [this]
 have key : ∀ (r pre : List T_api_Column) (fin : Bool → Option Bool) (s : Bool) (i : Nat), p.Params = pre ++ r → pre.length = i → runL (fun s i c => if (Ci c.Name && (LZ c && !((p.Params.take i).any fun y => decide (y.Name = c.Name)))) = true then .inr (s || decide (p.At = c.Name)) else .inl (some false)) fin r i s =
     if (r.all LZ && ((r.map (·.Name)).all Ci && GD (pre.map (·.Name)) (r.map (·.Name)))) = true then fin (s || (r.map (·.Name)).any fun x => decide (p.At = x)) else some false := by
   intro r
   induction r with
   | nil => intro pre fin s i _ _; simp [runL, GD]
   | cons c r ih =>
     intro pre fin s i he hi
     have htake : p.Params.take i = pre := by rw [he, ← hi, List.take_left]
     have hany : (pre.any fun y => decide (y.Name = c.Name)) = ((pre.map (·.Name)).any fun y => decide (y = c.Name)) := by rw [List.any_map]; rfl
     rw [runL, htake, List.map_cons, List.all_cons, List.all_cons, GD, hany]
     cases Ci c.Name
     · simp
     · cases LZ c
       · simp
       · cases ((pre.map (·.Name)).any fun y => decide (y = c.Name))
         · simp only [Bool.not_false, Bool.and_self, if_true, Bool.true_and]
           rw [ih (pre ++ [c]) fin _ _ (by rw [he]; simp) (by simp [hi])]
           simp only [List.map_append, List.map_cons, List.map_nil, List.any_cons, Bool.or_assoc]
         · simp
 rw [key p.Params [] _ _ 0 (by simp) rfl]
 simp only [List.map_nil, Sh, SZ]
 have hlen : (p.Params.map (·.Name)).length = p.Params.length := by simp
 have d1 : decide ((p.Params.length : Int) ≤ 8) = decide ((p.Params.map (·.Name)).length ≤ 8) := by rw [decide_eq_decide, hlen]; omega
 have d2 : decide ((0 : Int) < (p.Params.length : Int)) = !decide ((p.Params.map (·.Name)).length = 0) := by rw [Bool.eq_iff_iff, decide_eq_true_iff, Bool.not_eq_true', decide_eq_false_iff_not, hlen]; omega
 have d3 : (p.Params.map (·.Name)).length = 0 → ((p.Params.map (·.Name)).any fun x => decide (p.At = x)) = false := fun h => by rw [List.eq_nil_of_length_eq_zero h]; rfl
 simp only [GN, GF, GG, GM, h1, h2, d1, d2, Option.bind_some, AL4, ZG]
 generalize p.Params.map (·.Name) = names at *
 generalize p.Params.all LZ = a1
 generalize names.all Ci = a2
 generalize decide names.Nodup = a3
 have d3' : decide (names.length = 0) = true → (names.any fun x => decide (p.At = x)) = false := fun h => d3 (of_decide_eq_true h)
 generalize (names.any fun x => decide (p.At = x)) = a4 at *
 generalize decide (names.length = 0) = a5 at *
 generalize decide (names.length ≤ 8) = a6
 generalize decide (1 ≤ p.Fuel) = a7
 generalize decide (p.Fuel ≤ 2000) = a8
 generalize Ci p.Name = a9
 generalize Ci p.From = a10
 generalize decide (p.From = (⟨#[]⟩ : ByteArray)) = a11
 generalize decide (p.At = (⟨#[]⟩ : ByteArray)) = a12
 clear this key inner h1 h2 h3 hn d1 d2 d3 hlen hp
 cases a1 <;> cases a2 <;> cases a3 <;> simp
 cases a11 <;> cases a10 <;> cases a9 <;> cases a6 <;> cases a5 <;> cases a4 <;> simp at d3' ⊢ <;> cases a12 <;> cases a7 <;> simp
end Go.Ax
set_option linter.unusedVariables false
set_option linter.unusedSimpArgs false
namespace Go.Ax
def Bz {α : Type} (N : α → Nat) : List α → Nat
 | [] => 0
 | x :: r => N x + Bz N r
def BV {α : Type} (D : α → Nat) : List α → Nat
 | [] => 0
 | x :: r => max (D x) (BV D r)
theorem ZH {α : Type} (N : α → Nat) : ∀ a b : List α, Bz N (a ++ b) = Bz N a + Bz N b
 | [], b => by simp [Bz]
 | x :: a, b => by simp [Bz, ZH N a b]; omega
theorem Ay2 {α : Type} (D : α → Nat) : ∀ a b : List α, BV D (a ++ b) = max (BV D a) (BV D b)
 | [], b => by simp [BV]
 | x :: a, b => by simp [BV, Ay2 D a b] <;> omega
theorem RJ {α : Type} (D : α → Nat) {x : α} : ∀ {l : List α}, x ∈ l → D x ≤ BV D l
 | y :: l, h => by
   rw [BV]
   rcases List.mem_cons.1 h with h | h
   · subst h; omega
   · have := RJ D h; omega
def Sz (s : T_Ssize) (N D : Nat) : Prop := (N < 1000 → s.nodes = N ∧ s.depth = D) ∧ (1000 ≤ N → s.nodes = 1000 ∧ 0 ≤ s.depth ∧ s.depth ≤ 1000)
theorem Sz.zero : Sz ⟨(0 : Int), (0 : Int)⟩ 0 0 := ⟨fun _ => ⟨rfl, rfl⟩, fun h => by omega⟩
theorem Sz.big {N D : Nat} (h : 1000 ≤ N) : Sz ⟨(1000 : Int), (1000 : Int)⟩ N D := ⟨fun h' => by omega, fun _ => ⟨rfl, by decide, by decide⟩⟩
theorem Q6 {s : T_Ssize} {N D : Nat} (hd : D ≤ 900) (h : Sz s N D) : Cg s = decide (1000 ≤ N) := by
 unfold Cg
 by_cases hN : N < 1000
 · obtain ⟨h1, h2⟩ := h.1 hN
   have e1 : ¬ (1000 : Int) ≤ s.nodes := by omega
   have e2 : ¬ (1000 : Int) ≤ s.depth := by omega
   have e3 : ¬ 1000 ≤ N := by omega
   simp [e1, e2, e3]
 · obtain ⟨h1, h2⟩ := h.2 (by omega)
   have e3 : 1000 ≤ N := by omega
   simp [h1, e3]
theorem Sz.bd {s : T_Ssize} {N D : Nat} (hd : D ≤ 900) (h : Sz s N D) : 0 ≤ s.nodes ∧ s.nodes ≤ 1000 ∧ 0 ≤ s.depth ∧ s.depth ≤ 1000 := by
 by_cases hN : N < 1000
 · obtain ⟨h1, h2⟩ := h.1 hN; omega
 · obtain ⟨h1, h2⟩ := h.2 (by omega); omega
theorem Sz.add {s t : T_Ssize} {N D N' D' : Nat} (h : Sz s N D) (k : Sz t N' D') (hd : D ≤ 900) (hd' : D' ≤ 900) : Sz (A8 s t) (N + N') (max D D') := by
 have b1 := h.bd hd
 have b2 := k.bd hd'
 have hw : IntKind.wrap .i64 (s.nodes + t.nodes) = s.nodes + t.nodes := EL (by omega) (by omega)
 refine ⟨fun hlt => ?_, fun hge => ?_⟩
 · obtain ⟨h1, h2⟩ := h.1 (by omega)
   obtain ⟨k1, k2⟩ := k.1 (by omega)
   simp only [A8, hw]
   omega
 · simp only [A8, hw]
   have hn : 1000 ≤ s.nodes + t.nodes := by
     by_cases hN : N < 1000
     · by_cases hN' : N' < 1000
       · have := (h.1 hN).1; have := (k.1 hN').1; omega
       · have := (k.2 (by omega)).1; omega
     · have := (h.2 (by omega)).1; omega
   omega
theorem Sz.over {s : T_Ssize} {N D : Nat} (h : Sz s N D) (hd : D ≤ 899) : Sz (Jw s) (N + 1) (D + 1) := by
 have b1 := h.bd (by omega)
 have hw : IntKind.wrap .i64 (s.nodes + 1) = s.nodes + 1 := EL (by omega) (by omega)
 have hw2 : IntKind.wrap .i64 (s.depth + 1) = s.depth + 1 := EL (by omega) (by omega)
 refine ⟨fun hlt => ?_, fun hge => ?_⟩
 · obtain ⟨h1, h2⟩ := h.1 (by omega)
   simp only [Jw, hw, hw2]
   omega
 · simp only [Jw, hw, hw2]
   have : 999 ≤ s.nodes := by
     by_cases hN : N < 1000
     · have := (h.1 hN).1; omega
     · have := (h.2 (by omega)).1; omega
   omega
theorem PW {n : Nat} {l : List TE} {a : Nat} (ha : a < 1000) {fn2 : TE → Int → Option T_Ssize} {N D : TE → Nat} (hf : ∀ x, x ∈ l → D x ≤ 900 ∧ ∃ s, fn2 x (a : Int) = some s ∧ Sz s (N x) (D x)) (hl : l.length ≤ 100) (hn : 100 < n) :
   ∃ s, FM n l (a : Int) fn2 = some s ∧ Sz s (Bz N l) (BV D l) := by
 unfold FM
 have := B0 (l := l) (F := fun m (s : Int × Int) v => Ck l (a : Int) fn2 m s.1 s.2 v)
   (g := fun s _ x => if Cg ⟨s.1, s.2⟩ = true then .inl (some ⟨1000, 1000⟩) else (match fn2 x (a : Int) with | some t => .inr ((A8 ⟨s.1, s.2⟩ t).nodes, (A8 ⟨s.1, s.2⟩ t).depth) | none => .inl none)) (fin := fun s => some ⟨s.1, s.2⟩)
   (fun m i x s hx => by
     have hlt := BC hx
     show Ck l (a : Int) fn2 (m + 1) s.1 s.2 (i : Int) = _
     rw [Ck, Gx, Bk, hx]
     have h1 : (i : Int) < (l.length : Int) := by omega
     have h2 : ¬ (1000 : Int) ≤ (a : Int) := by omega
     simp only [h1, h2, decide_true, decide_false, cond_true, Option.bind_some, FA]
     cases Cg ⟨s.1, s.2⟩
     · simp only [cond_false, Bool.false_eq_true, if_false]
       cases fn2 x (a : Int) with
       | none => rfl
       | some t => simp only [Option.bind_some]; rw [Bi (by omega)]
     · rfl)
   (fun m s => by
     show Ck l (a : Int) fn2 (m + 1) s.1 s.2 _ = _
     rw [Ck, Gx]; simp) (m := n) (by omega) ((0 : Int), (0 : Int))
 rw [this]
 have key : ∀ (r : List TE) (s : Int × Int) (i N0 D0 : Nat), (∀ x, x ∈ r → D x ≤ 900 ∧ ∃ s, fn2 x (a : Int) = some s ∧ Sz s (N x) (D x)) → D0 ≤ 900 → Sz ⟨s.1, s.2⟩ N0 D0 →
     ∃ t, runL (fun s _ x => if Cg ⟨s.1, s.2⟩ = true then .inl (some ⟨1000, 1000⟩) else (match fn2 x (a : Int) with | some t => .inr ((A8 ⟨s.1, s.2⟩ t).nodes, (A8 ⟨s.1, s.2⟩ t).depth) | none => .inl none)) (fun s => some ⟨s.1, s.2⟩) r i s = some t ∧ Sz t (N0 + Bz N r) (max D0 (BV D r)) := by
   intro r
   induction r with
   | nil => intro s i N0 D0 _ _ hs; exact ⟨_, rfl, by simpa [Bz, BV] using hs⟩
   | cons x r ih =>
     intro s i N0 D0 hr hd hs
     rw [runL]
     obtain ⟨hdx, t, ht, hz⟩ := hr x (by simp)
     by_cases hfull : 1000 ≤ N0
     · have : Cg ⟨s.1, s.2⟩ = true := by rw [Q6 hd hs]; simp [hfull]
       simp only [this, if_true]
       exact ⟨_, rfl, Sz.big (by omega)⟩
     · have : Cg ⟨s.1, s.2⟩ = false := by rw [Q6 hd hs]; simp [hfull]
       simp only [this, Bool.false_eq_true, if_false, ht]
       obtain ⟨u, hu, hz2⟩ := ih ((A8 ⟨s.1, s.2⟩ t).nodes, (A8 ⟨s.1, s.2⟩ t).depth) (i + 1) (N0 + N x) (max D0 (D x)) (fun y hy => hr y (by simp [hy])) (by omega) (hs.add hz hd hdx)
       refine ⟨u, hu, ?_⟩
       simpa [Bz, BV, Nat.add_assoc, Nat.max_assoc] using hz2
 obtain ⟨t, ht, hz⟩ := key l ((0 : Int), (0 : Int)) 0 0 0 hf (by omega) Sz.zero
 exact ⟨t, ht, by simpa using hz⟩
theorem KY {n : Nat} {l : List TS} {a : Nat} (ha : a < 1000) {fn2 : TS → Int → Option T_Ssize} {N D : TS → Nat} (hf : ∀ x, x ∈ l → D x ≤ 900 ∧ ∃ s, fn2 x (a : Int) = some s ∧ Sz s (N x) (D x)) (hl : l.length ≤ 100) (hn : 100 < n) :
   ∃ s, Do n l (a : Int) fn2 = some s ∧ Sz s (Bz N l) (BV D l) := by
 unfold Do
 have := B0 (l := l) (F := fun m (s : Int × Int) v => Cj l (a : Int) fn2 m s.1 s.2 v)
   (g := fun s _ x => if Cg ⟨s.1, s.2⟩ = true then .inl (some ⟨1000, 1000⟩) else (match fn2 x (a : Int) with | some t => .inr ((A8 ⟨s.1, s.2⟩ t).nodes, (A8 ⟨s.1, s.2⟩ t).depth) | none => .inl none)) (fin := fun s => some ⟨s.1, s.2⟩)
   (fun m i x s hx => by
     have hlt := BC hx
     show Cj l (a : Int) fn2 (m + 1) s.1 s.2 (i : Int) = _
     rw [Cj, Gy, Bk, hx]
     have h1 : (i : Int) < (l.length : Int) := by omega
     have h2 : ¬ (1000 : Int) ≤ (a : Int) := by omega
     simp only [h1, h2, decide_true, decide_false, cond_true, Option.bind_some, FF]
     cases Cg ⟨s.1, s.2⟩
     · simp only [cond_false, Bool.false_eq_true, if_false]
       cases fn2 x (a : Int) with
       | none => rfl
       | some t => simp only [Option.bind_some]; rw [Bi (by omega)]
     · rfl)
   (fun m s => by
     show Cj l (a : Int) fn2 (m + 1) s.1 s.2 _ = _
     rw [Cj, Gy]; simp) (m := n) (by omega) ((0 : Int), (0 : Int))
 rw [this]
 have key : ∀ (r : List TS) (s : Int × Int) (i N0 D0 : Nat), (∀ x, x ∈ r → D x ≤ 900 ∧ ∃ s, fn2 x (a : Int) = some s ∧ Sz s (N x) (D x)) → D0 ≤ 900 → Sz ⟨s.1, s.2⟩ N0 D0 →
     ∃ t, runL (fun s _ x => if Cg ⟨s.1, s.2⟩ = true then .inl (some ⟨1000, 1000⟩) else (match fn2 x (a : Int) with | some t => .inr ((A8 ⟨s.1, s.2⟩ t).nodes, (A8 ⟨s.1, s.2⟩ t).depth) | none => .inl none)) (fun s => some ⟨s.1, s.2⟩) r i s = some t ∧ Sz t (N0 + Bz N r) (max D0 (BV D r)) := by
   intro r
   induction r with
   | nil => intro s i N0 D0 _ _ hs; exact ⟨_, rfl, by simpa [Bz, BV] using hs⟩
   | cons x r ih =>
     intro s i N0 D0 hr hd hs
     rw [runL]
     obtain ⟨hdx, t, ht, hz⟩ := hr x (by simp)
     by_cases hfull : 1000 ≤ N0
     · have : Cg ⟨s.1, s.2⟩ = true := by rw [Q6 hd hs]; simp [hfull]
       simp only [this, if_true]
       exact ⟨_, rfl, Sz.big (by omega)⟩
     · have : Cg ⟨s.1, s.2⟩ = false := by rw [Q6 hd hs]; simp [hfull]
       simp only [this, Bool.false_eq_true, if_false, ht]
       obtain ⟨u, hu, hz2⟩ := ih ((A8 ⟨s.1, s.2⟩ t).nodes, (A8 ⟨s.1, s.2⟩ t).depth) (i + 1) (N0 + N x) (max D0 (D x)) (fun y hy => hr y (by simp [hy])) (by omega) (hs.add hz hd hdx)
       refine ⟨u, hu, ?_⟩
       simpa [Bz, BV, Nat.add_assoc, Nat.max_assoc] using hz2
 obtain ⟨t, ht, hz⟩ := key l ((0 : Int), (0 : Int)) 0 0 0 hf (by omega) Sz.zero
 exact ⟨t, ht, by simpa using hz⟩
mutual
def nE : TE → Nat
 | ⟨_, _, _, _, _, args⟩ => nEs args + 1
def nEs : List TE → Nat
 | [] => 0
 | a :: l => nE a + nEs l
end
mutual
def dE : TE → Nat
 | ⟨_, _, _, _, _, args⟩ => dEs args + 1
def dEs : List TE → Nat
 | [] => 0
 | a :: l => max (dE a) (dEs l)
end
theorem AK8 : ∀ l, nEs l = Bz nE l
 | [] => rfl
 | a :: l => by rw [nEs, AK8 l]; rfl
theorem AL1 : ∀ l, dEs l = BV dE l
 | [] => rfl
 | a :: l => by rw [dEs, AL1 l]; rfl
theorem Al5 (e : TE) : nE e = Bz nE e.Args + 1 := by cases e; rw [nE, AK8]
theorem At9 (e : TE) : dE e = BV dE e.Args + 1 := by cases e; rw [dE, AL1]
mutual
def nS : TS → Nat
 | ⟨_, _, _, _, _, exprs, body, els⟩ => Bz nE exprs + (nSs body + nSs els) + 1
def nSs : List TS → Nat
 | [] => 0
 | a :: l => nS a + nSs l
end
mutual
def dS : TS → Nat
 | ⟨_, _, _, _, _, exprs, body, els⟩ => max (BV dE exprs) (max (dSs body) (dSs els)) + 1
def dSs : List TS → Nat
 | [] => 0
 | a :: l => max (dS a) (dSs l)
end
theorem AB7 : ∀ l, nSs l = Bz nS l
 | [] => rfl
 | a :: l => by rw [nSs, AB7 l]; rfl
theorem AD3 : ∀ l, dSs l = BV dS l
 | [] => rfl
 | a :: l => by rw [dSs, AD3 l]; rfl
theorem Ai9 (x : TS) : nS x = Bz nE x.Exprs + (Bz nS x.Body + Bz nS x.Else) + 1 := by cases x; rw [nS, AB7, AB7]
theorem Aw8 (x : TS) : dS x = max (BV dE x.Exprs) (max (BV dS x.Body) (BV dS x.Else)) + 1 := by cases x; rw [dS, AD3, AD3]
theorem Dr {e : TE} (h : LimE e) : ∃ M, ∀ n, M ≤ n → ∀ a : Nat, a + dE e ≤ 900 → ∃ s, C3 n e (a : Int) = some s ∧ Sz s (nE e) (dE e) := by
 induction h with
 | mk e hl hk ih =>
   have hall : ∃ M, ∀ x, x ∈ e.Args → ∀ n, M ≤ n → ∀ a : Nat, a + dE x ≤ 900 → ∃ s, C3 n x (a : Int) = some s ∧ Sz s (nE x) (dE x) := bound_list (P := fun x n => ∀ a : Nat, a + dE x ≤ 900 → ∃ s, C3 n x (a : Int) = some s ∧ Sz s (nE x) (dE x)) ih
   obtain ⟨M, hM⟩ := hall
   refine ⟨M + 102, fun n hn a ha => ?_⟩
   obtain ⟨m, rfl⟩ : ∃ m, n = m + 1 := ⟨n - 1, by omega⟩
   rw [At9] at ha
   have hw : IntKind.wrap .i64 ((a : Int) + 1) = ((a + 1 : Nat) : Int) := Bi (by omega)
   rw [C3, Kq, hw]
   obtain ⟨s, hs, hz⟩ := PW (n := m) (l := e.Args) (a := a + 1) (by omega) (fn2 := fun a0 a1 => C3 m a0 a1) (N := nE) (D := dE) (fun x hx => by
     have := RJ dE hx
     exact ⟨by omega, hM x hx m (by omega) (a + 1) (by omega)⟩) (by omega) (by omega)
   rw [hs]
   exact ⟨_, rfl, by rw [Al5, At9]; exact hz.over (by omega)⟩
where
 bound_list {α : Type} {P : α → Nat → Prop} : ∀ {l : List α}, (∀ x, x ∈ l → ∃ M, ∀ n, M ≤ n → P x n) → ∃ M, ∀ x, x ∈ l → ∀ n, M ≤ n → P x n
   | [], _ => ⟨0, fun x hx => by cases hx⟩
   | a :: l, h => by
     obtain ⟨M1, h1⟩ := h a (by simp)
     obtain ⟨M2, h2⟩ := bound_list (l := l) fun x hx => h x (by simp [hx])
     refine ⟨max M1 M2, fun x hx n hn => ?_⟩
     rcases List.mem_cons.1 hx with e | e
     · subst e; exact h1 n (by omega)
     · exact h2 x e n (by omega)
theorem Au0 {x : TS} (h : LimS x) : ∃ M, ∀ n, M ≤ n → ∀ a : Nat, a + dS x ≤ 900 → ∃ s, Cc n x (a : Int) = some s ∧ Sz s (nS x) (dS x) := by
 induction h with
 | mk x h0 h1 h2 h3 he hb hc ihb ihc =>
   obtain ⟨M1, g1⟩ := Dr.bound_list (P := fun x n => ∀ a : Nat, a + dE x ≤ 900 → ∃ s, C3 n x (a : Int) = some s ∧ Sz s (nE x) (dE x)) (l := x.Exprs) (fun e hm => Dr (he e hm))
   obtain ⟨M2, g2⟩ := Dr.bound_list (P := fun x n => ∀ a : Nat, a + dS x ≤ 900 → ∃ s, Cc n x (a : Int) = some s ∧ Sz s (nS x) (dS x)) ihb
   obtain ⟨M3, g3⟩ := Dr.bound_list (P := fun x n => ∀ a : Nat, a + dS x ≤ 900 → ∃ s, Cc n x (a : Int) = some s ∧ Sz s (nS x) (dS x)) ihc
   refine ⟨M1 + M2 + M3 + 102, fun n hn a ha => ?_⟩
   obtain ⟨m, rfl⟩ : ∃ m, n = m + 1 := ⟨n - 1, by omega⟩
   rw [Aw8] at ha
   have hw : IntKind.wrap .i64 ((a : Int) + 1) = ((a + 1 : Nat) : Int) := Bi (by omega)
   rw [Cc, Ku, hw]
   obtain ⟨s1, hs1, hz1⟩ := PW (n := m) (l := x.Exprs) (a := a + 1) (by omega) (fn2 := fun a0 a1 => C3 m a0 a1) (N := nE) (D := dE) (fun y hy => by
     have := RJ dE hy
     exact ⟨by omega, g1 y hy m (by omega) (a + 1) (by omega)⟩) (by omega) (by omega)
   obtain ⟨s2, hs2, hz2⟩ := KY (n := m) (l := x.Body) (a := a + 1) (by omega) (fn2 := fun a0 a1 => Cc m a0 a1) (N := nS) (D := dS) (fun y hy => by
     have := RJ dS hy
     exact ⟨by omega, g2 y hy m (by omega) (a + 1) (by omega)⟩) (by omega) (by omega)
   obtain ⟨s3, hs3, hz3⟩ := KY (n := m) (l := x.Else) (a := a + 1) (by omega) (fn2 := fun a0 a1 => Cc m a0 a1) (N := nS) (D := dS) (fun y hy => by
     have := RJ dS hy
     exact ⟨by omega, g3 y hy m (by omega) (a + 1) (by omega)⟩) (by omega) (by omega)
   rw [hs1, Option.bind_some, hs2, Option.bind_some, hs3]
   refine ⟨_, rfl, ?_⟩
   have hz := ((hz1.add hz2 (by omega) (by omega)).add hz3 (by omega) (by omega)).over (by omega)
   rw [Ai9, Aw8, show max (BV dE x.Exprs) (max (BV dS x.Body) (BV dS x.Else)) = max (max (BV dE x.Exprs) (BV dS x.Body)) (BV dS x.Else) by omega, show Bz nE x.Exprs + (Bz nS x.Body + Bz nS x.Else) = Bz nE x.Exprs + Bz nS x.Body + Bz nS x.Else by omega]
   exact hz
def CW (N D : Nat) : Int × Int := if 1000 ≤ N ∨ 1000 ≤ D then (1000, 1000) else ((N : Int), (D : Int))
theorem AG1 {l : List TS} (hl : l.length ≤ 100) (h : ∀ x, x ∈ l → LimS x) (hd : BV dS l ≤ 900) : ∃ M, ∀ n, M ≤ n → ∃ s, Do n l (0 : Int) (fun (a0 : TS) (a1 : Int) => Cc n a0 a1) = some s ∧ Sz s (Bz nS l) (BV dS l) := by
 obtain ⟨M, g⟩ := Dr.bound_list (P := fun x n => ∀ a : Nat, a + dS x ≤ 900 → ∃ s, Cc n x (a : Int) = some s ∧ Sz s (nS x) (dS x)) (fun x hx => Au0 (h x hx))
 refine ⟨M + 102, fun n hn => ?_⟩
 exact KY (n := n) (l := l) (a := 0) (by omega) (fn2 := fun a0 a1 => Cc n a0 a1) (N := nS) (D := dS) (fun y hy => by
     have := RJ dS hy
     exact ⟨by omega, g y hy n (by omega) 0 (by omega)⟩) (by omega) (by omega)
theorem AU6 {s : T_Ssize} {N D : Nat} (h : Sz s N D) (hd : D ≤ 900) : H5 s = CW N D := by
 unfold H5 CW
 rw [Q6 hd h]
 by_cases hN : 1000 ≤ N
 · simp [hN]
 · obtain ⟨h1, h2⟩ := h.1 (by omega)
   have : ¬ 1000 ≤ D := by omega
   simp [hN, this, h1, h2]
theorem AN3 {s : T_Ssize} {N D : Nat} (h : Sz s N D) (hd : D ≤ 900) : Hn s = decide (N ≤ 300 ∧ D ≤ 12) := by
 unfold Hn
 by_cases hN : N < 1000
 · obtain ⟨h1, h2⟩ := h.1 hN
   rw [h1, h2]
   by_cases a : N ≤ 300
   · have : (N : Int) ≤ 300 := by omega
     by_cases b : D ≤ 12
     · have : (D : Int) ≤ 12 := by omega
       simp [*]
     · have : ¬ (D : Int) ≤ 12 := by omega
       simp [*]
   · have : ¬ (N : Int) ≤ 300 := by omega
     simp [*]
 · have := (h.2 (by omega)).1
   have h3 : ¬ N ≤ 300 := by omega
   simp [this, h3]
theorem AU4 {p : TP} (hl : p.Body.length ≤ 100) (h : ∀ x, x ∈ p.Body → LimS x) (hd : BV dS p.Body ≤ 900) : Ev (fun n => Pn n p) (CW (Bz nS p.Body) (BV dS p.Body)) := by
 obtain ⟨M, g⟩ := AG1 hl h hd
 refine ⟨M, fun n hn => ?_⟩
 obtain ⟨s, hs, hz⟩ := g n hn
 show Pn n p = _
 rw [Pn, hs, Option.bind_some, AU6 hz hd]
def Ho (p : TP) : Bool := SZ p && (decide (Bz nS p.Body ≤ 300 ∧ BV dS p.Body ≤ 12) && p.Body.all okS)
theorem As7 {p : TP} (hp : p.Params.length ≤ 12) (hl : p.Body.length ≤ 100) (h : ∀ x, x ∈ p.Body → LimS x) (hd : BV dS p.Body ≤ 900) : Ev (fun n => Je n p) (Ho p) := by
 obtain ⟨M, g⟩ := AG1 hl h hd
 obtain ⟨N1, h1⟩ := AM3 p hp
 obtain ⟨N2, h2⟩ := AK4 hl h
 refine ⟨M + N1 + N2, fun n hn => ?_⟩
 obtain ⟨s, hs, hz⟩ := g n (by omega)
 have h1 := h1 n (by omega)
 have h2 := h2 n (by omega)
 simp only at h1 h2
 show Je n p = _
 rw [Je, hs, Option.bind_some, h1, Option.bind_some, AN3 hz hd]
 simp only [KD, h2, Option.bind_some, Ho]
 cases SZ p <;> cases decide (Bz nS p.Body ≤ 300 ∧ BV dS p.Body ≤ 12) <;> rfl
end Go.Ax
