import Derived.Test.YtojkpenjeglipaaIAxP
import Derived.Test.YtojkpenjeglipaaIYD1
import Derived.Test.YtojkpenjeglipaaIYD0
import Derived.Test.YtojkpenjeglipaaIYD10
import Derived.Test.YtojkpenjeglipaaIYD11
import Derived.Test.YtojkpenjeglipaaIYD2
import Derived.Test.YtojkpenjeglipaaIYD5
import Derived.Test.YtojkpenjeglipaaIYD6
import Derived.Test.YtojkpenjeglipaaIYD7
import Derived.Test.YtojkpenjeglipaaIYD12
import Derived.Test.YtojkpenjeglipaaIYD14
import Derived.Test.YtojkpenjeglipaaIYD15
import Derived.Test.YtojkpenjeglipaaIYD16
import Derived.Test.YtojkpenjeglipaaIYD3
import Derived.Test.YtojkpenjeglipaaIYD4
set_option linter.unusedVariables false
set_option linter.unusedSimpArgs false
namespace Go.Ax
attribute [local simp] Bool.cond_decide
abbrev MA {α : Type} (l : List α) : Prop := l.length ≤ 9223372036854775807
def Kh (s : ByteArray) : Bool := decide (s.size ≠ 0) && (decide (s.size ≤ 16) && ((match DW s with | [] => false | c :: _ => Ct c) && (DW s).all Cx))
theorem Uq {α : Type} (p : α → Bool) : ∀ (l : List α) (i : Nat) (u : Unit), runL (ρ := Bool) (fun _ _ x => if p x then .inr () else .inl (some false)) (fun _ => some true) l i u = some (l.all p)
 | [], i, u => rfl
 | x :: r, i, u => by
   rw [runL]
   cases h : p x
   · simp [h]
   · simp only [if_true, List.all_cons, h, Bool.true_and]
     exact Uq p r _ _
theorem AI4 (s : ByteArray) : Ev (fun n => Gj n s) (Kh s) := by
 refine ⟨18, fun n hn => ?_⟩
 unfold Gj FW FH
 by_cases h0 : s = (⟨#[]⟩ : ByteArray)
 · subst h0; rfl
 have hs : s.size ≠ 0 := fun e => h0 (Vw (by
   have : s.data.size = 0 := e
   have h2 := Array.eq_empty_of_size_eq_zero this
   simp [h2]))
 by_cases h16 : (16 : Int) < s.size
 · have : ¬ s.size ≤ 16 := by omega
   simp [h0, h16, Kh, this]
 · have hle : s.size ≤ 16 := by omega
   have hl := Sk s
   have e0 : Al5 s 0 = (DW s)[0]? := Ys s 0
   cases hb : DW s with
   | nil => rw [hb] at hl; simp at hl; omega
   | cons c r =>
     have hloop : Cc s n 0 = some ((DW s).all Cx) := by
       have := BW (l := DW s) (F := fun m (_ : Unit) v => Cc s m v) (g := fun _ _ x => if Cx x then .inr () else .inl (some false)) (fin := fun _ => some true)
         (fun m i x u hx => by
           have hlt := BN hx
           show Cc s (m + 1) (i : Int) = _
           rw [Cc, GL, Bn, hx]
           have : (i : Int) < ((DW s).length : Int) := by omega
           simp only [this, decide_true, cond_true, Option.bind_some]
           cases Cx x
           · rfl
           · simp only [Bool.not_true, cond_false, if_true]
             rw [Bj (by omega)])
         (fun m u => by
           show Cc s (m + 1) _ = _
           rw [Cc, GL]; simp) (m := n) (by omega) ()
       rw [this, Uq]
     rw [hb] at e0 hloop
     simp only [List.getElem?_cons_zero] at e0
     simp only [h0, h16, decide_false, cond_false, e0, Option.bind_some, Kh, hb]
     rw [hloop]
     cases Ct c <;> simp [hs, hle]
end Go.Ax
set_option linter.unusedVariables false
set_option linter.unusedSimpArgs false
namespace Go.Ax
theorem NO {α : Type} (b : α → Bool) : ∀ (l : List α) (i : Nat) (u : Unit), ∃ v : Int, runL (ρ := Int) (fun _ i x => if b x then .inl (some (i : Int)) else .inr ()) (fun _ => some (-1)) l i u = some v ∧ (0 ≤ v ↔ l.any b = true)
 | [], i, u => ⟨-1, rfl, by simp⟩
 | x :: r, i, u => by
   rw [runL]
   cases h : b x
   · simp only [Bool.false_eq_true, if_false, List.any_cons, h, Bool.false_or]
     exact NO b r _ _
   · exact ⟨i, by simp, by simp [h]⟩
theorem Lh {n : Nat} {l : List ByteArray} {fn1 : ByteArray → Option Bool} {b : ByteArray → Bool} (hn : l.length < n) (hs : MA l) (hf : ∀ x, x ∈ l → fn1 x = some (b x)) : ∃ v, B9 n l fn1 = some v ∧ (0 ≤ v ↔ l.any b = true) := by
 unfold B9
 have := BW (l := l) (F := fun m (_ : Unit) v => A3 l fn1 m v) (g := fun _ i x => if b x then .inl (some (i : Int)) else .inr ()) (fin := fun _ => some (-1))
   (fun m i x u hx => by
     have hlt := BN hx
     show A3 l fn1 (m + 1) (i : Int) = _
     rw [A3, Cs, Bn, hx]
     have h1 : (i : Int) < (l.length : Int) := by omega
     simp only [h1, decide_true, cond_true, Option.bind_some, hf x (List.mem_of_getElem? hx)]
     cases b x
     · simp only [cond_false, Bool.false_eq_true, if_false]; rw [Bj (by omega)]
     · rfl)
   (fun m u => by
     show A3 l fn1 (m + 1) _ = _
     rw [A3, Cs]; simp) (m := n) hn ()
 rw [this]
 exact NO b l 0 ()
theorem Kk {n : Nat} {l : List ByteArray} {fn1 : ByteArray → Option Bool} {b : ByteArray → Bool} (hn : l.length < n) (hs : MA l) (hf : ∀ x, x ∈ l → fn1 x = some (b x)) : BR n l fn1 = some (l.any b) := by
 obtain ⟨v, h1, h2⟩ := Lh hn hs hf
 rw [BR, h1]
 simp only [Option.bind_some]
 congr 1
 rw [Bool.eq_iff_iff, decide_eq_true_iff]
 exact h2
theorem WZ {n : Nat} {l : List ByteArray} (p : ByteArray) (hn : l.length < n) (hs : MA l) : BO n l p = some (l.any fun x => decide (p = x)) := by
 unfold BO Dm
 have := BW (l := l) (F := fun m (_ : Unit) v => A9 l p m v) (g := fun _ i x => if decide (p = x) then .inl (some (i : Int)) else .inr ()) (fin := fun _ => some (-1))
   (fun m i x u hx => by
     have hlt := BN hx
     show A9 l p (m + 1) (i : Int) = _
     rw [A9, CU, Bn, hx]
     have h1 : (i : Int) < (l.length : Int) := by omega
     simp only [h1, decide_true, cond_true, Option.bind_some]
     cases decide (p = x)
     · simp only [cond_false, Bool.false_eq_true, if_false]; rw [Bj (by omega)]
     · rfl)
   (fun m u => by
     show A9 l p (m + 1) _ = _
     rw [A9, CU]; simp) (m := n) hn ()
 rw [this]
 obtain ⟨v, h1, h2⟩ := NO (fun x => decide (p = x)) l 0 ()
 rw [h1]
 simp only [Option.bind_some]
 congr 1
 rw [Bool.eq_iff_iff, decide_eq_true_iff]
 exact h2
def Lc (s : ByteArray) : Bool := G6.any fun x => decide (s = x)
theorem As4 (s : ByteArray) : Ev (fun n => Gy n s) (Lc s) := ⟨50, fun n hn => by
 show Gy n s = _
 rw [Gy, WZ s (Nat.lt_of_lt_of_le (by decide) hn) (by decide)]
 rfl⟩
def Cf (s : ByteArray) : Bool := Kh s && !Lc s
theorem AD5 (l : List ByteArray) (hs : MA l) : Ev (fun n => Gn n l) (l.all Kh) := by
 obtain ⟨N, hN⟩ := Ev.all (l := l) (f := fun n x => Gj n x) (r := Kh) fun x _ => AI4 x
 refine ⟨max N (l.length + 1), fun n hn => ?_⟩
 show Gn n l = _
 unfold Gn
 have := BW (l := l) (F := fun m (_ : Unit) v => Cy l n m v) (g := fun _ _ x => if Kh x then .inr () else .inl (some false)) (fin := fun _ => some true)
   (fun m i x u hx => by
     have hlt := BN hx
     show Cy l n (m + 1) (i : Int) = _
     rw [Cy, GW, Bn, hx]
     have h1 : (i : Int) < (l.length : Int) := by omega
     simp only [h1, decide_true, cond_true, Option.bind_some, hN n (by omega) x (List.mem_of_getElem? hx)]
     cases Kh x
     · rfl
     · simp only [Bool.not_true, cond_false, if_true]; rw [Bj (by omega)])
   (fun m u => by
     show Cy l n (m + 1) _ = _
     rw [Cy, GW]; simp) (m := n) (by omega) ()
 rw [this, Uq]
theorem KW (l : List ByteArray) (hs : MA l) : Ev (fun n => Gi n l) (l.all Cf) := by
 obtain ⟨N, hN⟩ := AD5 l hs
 obtain ⟨M, hM⟩ := Ev.all (l := l) (f := fun n x => Gy n x) (r := Lc) fun x _ => As4 x
 refine ⟨max (max N M) (l.length + 1), fun n hn => ?_⟩
 show Gi n l = _
 have h1 := hN n (by omega)
 simp only at h1
 rw [Gi, h1, Option.bind_some, Kk (b := Lc) (by omega) hs (fun x hx => hM n (by omega) x hx)]
 simp only [Option.bind_some]
 have e : l.all Cf = (l.all Kh && !l.any Lc) := by
   clear h1 hN hM hn hs
   induction l with
   | nil => rfl
   | cons x r ih => simp only [List.all_cons, List.any_cons, ih, Cf]; cases Kh x <;> cases Lc x <;> simp
 rw [e]
 cases l.all Kh <;> rfl
theorem Yk (s : ByteArray) : Ev (fun n => FO n s) (Lc s) := ⟨50, fun n hn => by
 show FO n s = _
 unfold FO
 have hlen : G6.length = 43 := by decide
 have := BW (l := G6) (F := fun m (_ : Unit) v => BB s m v) (g := fun _ i x => if decide (x = s) then .inl (some true) else .inr ()) (fin := fun _ => some false)
   (fun m i x u hx => by
     have hlt := BN hx
     show BB s (m + 1) (i : Int) = _
     rw [BB, EI]
     change (bif decide ((i : Int) < (G6.length : Int)) then (Dh G6 (i : Int)).bind _ else _) = _
     rw [Bn, hx]
     have h1 : (i : Int) < (G6.length : Int) := by omega
     simp only [h1, decide_true, cond_true, Option.bind_some]
     cases decide (x = s)
     · simp only [cond_false, Bool.false_eq_true, if_false]; rw [Bj (by omega)]
     · rfl)
   (fun m u => by
     show BB s (m + 1) _ = _
     rw [BB, EI]
     change (bif decide ((G6.length : Int) < (G6.length : Int)) then _ else _) = _
     simp) (m := n) (by omega) ()
 rw [this]
 have key : ∀ (l : List ByteArray) (i : Nat) (u : Unit), runL (ρ := Bool) (fun _ i x => if decide (x = s) then .inl (some true) else .inr ()) (fun _ => some false) l i u = some (l.any fun x => decide (s = x)) := by
   intro l
   induction l with
   | nil => intro i u; simp [runL]
   | cons x r ih =>
     intro i u
     rw [runL]
     by_cases h : x = s
     · simp [h]
     · have h2 : ¬ s = x := fun e => h e.symm
       simp only [h, decide_false, Bool.false_eq_true, if_false, ih, List.any_cons, h2, Bool.false_or]
 rw [key]; rfl⟩
theorem Am2 (s : ByteArray) : Ev (fun n => Cr n s) (Kh s) := by
 refine ⟨18, fun n hn => ?_⟩
 show Cr n s = _
 unfold Cr B8
 by_cases h0 : s.size = 0
 · simp [h0, Kh]
 · by_cases h16 : (16 : Int) < s.size
   · have : ¬ s.size ≤ 16 := by omega
     have h1 : ¬ (s.size : Int) < 1 := by omega
     simp [h1, h16, Kh, this]
   · have hle : s.size ≤ 16 := by omega
     have h1 : ¬ (s.size : Int) < 1 := by omega
     have hl := Sk s
     simp only [h1, h16, decide_false, cond_false]
     have := BW (l := DW s) (F := fun m (_ : Unit) v => A4 s m v) (g := fun _ i x => if (if i = 0 then Ct x else Cx x) then .inr () else .inl (some false)) (fin := fun _ => some true)
       (fun m i x u hx => by
         have hlt := BN hx
         show A4 s (m + 1) (i : Int) = _
         rw [A4, Cu, Ys, hx]
         have h1 : (i : Int) < (s.size : Int) := by omega
         simp only [h1, decide_true, cond_true, Option.bind_some]
         have hw := Bj (i := i) (by omega)
         simp only [Ce, hw, Ct, Cx]
         by_cases hi : i = 0
         · subst hi
           by_cases h97 : (97 : Int) ≤ x <;> by_cases h122 : x ≤ (122 : Int) <;> simp [h97, h122]
         · have hi' : ¬ (i : Int) = 0 := by omega
           simp only [hi, hi', if_false, decide_false, cond_false]
           by_cases h97 : (97 : Int) ≤ x <;> by_cases h122 : x ≤ (122 : Int) <;> by_cases h48 : (48 : Int) ≤ x <;> by_cases h57 : x ≤ (57 : Int) <;> by_cases h95 : x = (95 : Int) <;> simp [h97, h122, h48, h57, h95])
       (fun m u => by
         show A4 s (m + 1) _ = _
         rw [A4, Cu, hl]; simp) (m := n) (by omega) ()
     rw [this]
     have key : ∀ (l : List Int) (i : Nat) (u : Unit), i ≠ 0 → runL (ρ := Bool) (fun _ i x => if (if i = 0 then Ct x else Cx x) then .inr () else .inl (some false)) (fun _ => some true) l i u = some (l.all Cx) := by
       intro l
       induction l with
       | nil => intro i u _; rfl
       | cons x r ih =>
         intro i u hi
         rw [runL]
         simp only [hi, if_false, List.all_cons]
         cases Cx x
         · simp
         · simp only [if_true, Bool.true_and]; exact ih _ _ (by omega)
     unfold Kh
     cases hb : DW s with
     | nil => rw [hb] at hl; simp at hl; omega
     | cons c r =>
       rw [runL]
       simp only [if_true, List.all_cons]
       have hlp : Ct c = true → Cx c = true := fun h => by simp [Cx, h]
       cases hc : Ct c
       · simp
       · simp only [if_true, hlp hc, Bool.true_and, key r 1 () (by omega)]
         simp [h0, hle]
theorem GX (s : ByteArray) : Ev (fun n => Dr n s) (Cf s) := by
 obtain ⟨N, hN⟩ := Am2 s
 obtain ⟨M, hM⟩ := Yk s
 refine ⟨max N M, fun n hn => ?_⟩
 show Dr n s = _
 have h1 := hN n (by omega)
 have h2 := hM n (by omega)
 simp only at h1 h2
 rw [Dr, h1, h2]
 simp only [Option.bind_some, Cf]
 cases Kh s <;> rfl
end Go.Ax
set_option linter.unusedVariables false
set_option linter.unusedSimpArgs false
namespace Go.Ax
inductive LimE : TE → Prop
 | mk (e : TE) (h1 : e.Args.length ≤ 10) (h : ∀ a, a ∈ e.Args → LimE a) : LimE e
def FB (op : Int) : Int := if 1 ≤ op ∧ op ≤ 5 then 0 else if 6 ≤ op ∧ op ≤ 18 then 2 else if op = 19 ∨ op = 20 ∨ op = 21 then 1 else if 22 ≤ op ∧ op ≤ 24 then 2 else -1
def KM (op : Int) : Bool := decide (21 ≤ op ∧ op ≤ 24)
theorem Ag7 (op : Int) : OG op = (FB op, KM op) := by
 simp only [OG, LU, Mg, Mf, Bool.cond_decide, cond_true, cond_false, FB, KM]
 repeat' split
 all_goals first | (exfalso; omega) | (simp; try omega)
def Ro (e : TE) : Bool :=
 if e.Op = 1 then decide (0 ≤ e.N) && (decide ((⟨#[]⟩ : ByteArray) = e.S) && (decide ((⟨#[]⟩ : ByteArray) = e.Name) && decide ((⟨#[]⟩ : ByteArray) = e.Src)))
 else if e.Op = 2 then decide (e.S.size ≤ 200) && (decide (0 = e.N) && (decide ((⟨#[]⟩ : ByteArray) = e.Name) && decide ((⟨#[]⟩ : ByteArray) = e.Src)))
 else if e.Op = 3 then decide (0 ≤ e.N ∧ e.N ≤ 1) && (decide ((⟨#[]⟩ : ByteArray) = e.S) && (decide ((⟨#[]⟩ : ByteArray) = e.Name) && decide ((⟨#[]⟩ : ByteArray) = e.Src)))
 else if e.Op = 4 then Cf e.Name && (decide (0 = e.N) && (decide ((⟨#[]⟩ : ByteArray) = e.S) && decide ((⟨#[]⟩ : ByteArray) = e.Src)))
 else if e.Op = 5 then (Cf e.Name && Cf e.S) && (decide (0 = e.N) && decide ((⟨#[]⟩ : ByteArray) = e.Src))
 else if KM e.Op = true then (Cf e.Name && Cf e.Src) && (decide (0 = e.N) && decide ((⟨#[]⟩ : ByteArray) = e.S))
 else decide (0 = e.N) && (decide ((⟨#[]⟩ : ByteArray) = e.S) && (decide ((⟨#[]⟩ : ByteArray) = e.Name) && decide ((⟨#[]⟩ : ByteArray) = e.Src)))
theorem AB9 (e : TE) : Ev (fun n => K7 n e) (Ro e) := by
 obtain ⟨N1, h1⟩ := KW [e.Name] (by simp)
 obtain ⟨N2, h2⟩ := KW [e.Name, e.S] (by simp)
 obtain ⟨N3, h3⟩ := KW [e.Name, e.Src] (by simp)
 refine ⟨N1 + N2 + N3, fun n hn => ?_⟩
 have h1 := h1 n (by omega)
 have h2 := h2 n (by omega)
 have h3 := h3 n (by omega)
 simp only [List.all_cons, List.all_nil, Bool.and_true] at h1 h2 h3
 have h3d : (Int.fdiv e.N (2 ^ (min (Int.toNat (1 : Int)) (IntKind.bits .i64))) = (0 : Int)) ↔ (0 ≤ e.N ∧ e.N ≤ 1) := by
   have : (2 : Int) ^ (min (Int.toNat (1 : Int)) (IntKind.bits .i64)) = 2 := rfl
   rw [this, Int.fdiv_eq_ediv_of_nonneg _ (by decide)]; omega
 show K7 n e = _
 unfold K7 Ro
 simp only [h1, h2, h3, Ag7, Option.bind_some, decide_true, h3d, Int.ofNat_le,
   I2, Jn, Jp, IV, Jy, Jd, IS, Je, IY, I6,
   Im, Ik, H6, H9, H7, Ie, Ia, Ip, Ii, Ih]
 have e200 : (decide ((e.S.size : Int) ≤ 200)) = decide (e.S.size ≤ 200) := by rw [decide_eq_decide]; omega
 rw [e200]
 generalize Cf e.Name = b1
 generalize Cf e.S = b2
 generalize Cf e.Src = b3
 by_cases o1 : e.Op = 1
 · simp only [o1, decide_true, cond_true, if_true]
   cases decide (0 ≤ e.N) <;> cases decide ((⟨#[]⟩ : ByteArray) = e.S) <;> cases decide ((⟨#[]⟩ : ByteArray) = e.Name) <;> cases decide ((⟨#[]⟩ : ByteArray) = e.Src) <;> rfl
 by_cases o2 : e.Op = 2
 · simp only [o1, o2, decide_true, decide_false, cond_true, cond_false, if_true, if_false]
   cases decide (e.S.size ≤ 200) <;> cases decide (0 = e.N) <;> cases decide ((⟨#[]⟩ : ByteArray) = e.Name) <;> cases decide ((⟨#[]⟩ : ByteArray) = e.Src) <;> rfl
 by_cases o3 : e.Op = 3
 · simp only [o1, o2, o3, decide_true, decide_false, cond_true, cond_false, if_true, if_false]
   cases decide (0 ≤ e.N ∧ e.N ≤ 1) <;> cases decide ((⟨#[]⟩ : ByteArray) = e.S) <;> cases decide ((⟨#[]⟩ : ByteArray) = e.Name) <;> cases decide ((⟨#[]⟩ : ByteArray) = e.Src) <;> rfl
 by_cases o4 : e.Op = 4
 · simp only [o1, o2, o3, o4, decide_true, decide_false, cond_true, cond_false, if_true, if_false]
   cases b1 <;> cases decide (0 = e.N) <;> cases decide ((⟨#[]⟩ : ByteArray) = e.S) <;> cases decide ((⟨#[]⟩ : ByteArray) = e.Src) <;> rfl
 by_cases o5 : e.Op = 5
 · simp only [o1, o2, o3, o4, o5, decide_true, decide_false, cond_true, cond_false, if_true, if_false]
   cases b1 <;> cases b2 <;> cases decide (0 = e.N) <;> cases decide ((⟨#[]⟩ : ByteArray) = e.Src) <;> rfl
 simp only [o1, o2, o3, o4, o5, decide_false, cond_false, if_false]
 cases KM e.Op
 · simp only [cond_false, Bool.false_eq_true, if_false]
   cases decide (0 = e.N) <;> cases decide ((⟨#[]⟩ : ByteArray) = e.S) <;> cases decide ((⟨#[]⟩ : ByteArray) = e.Name) <;> cases decide ((⟨#[]⟩ : ByteArray) = e.Src) <;> rfl
 · simp only [cond_true, if_true]
   cases b1 <;> cases b3 <;> cases decide (0 = e.N) <;> cases decide ((⟨#[]⟩ : ByteArray) = e.S) <;> rfl
def Ao4 (e : TE) : Bool := decide (FB e.Op = (e.Args.length : Int)) && Ro e
mutual
def okE : TE → Bool
 | ⟨op, n, s, name, src, args⟩ => Ao4 ⟨op, n, s, name, src, args⟩ && AM8 args
def AM8 : List TE → Bool
 | [] => true
 | a :: l => okE a && AM8 l
end
theorem Az9 : ∀ l : List TE, AM8 l = l.all okE
 | [] => rfl
 | a :: l => by rw [AM8, Az9 l]; rfl
theorem Ah7 (e : TE) : okE e = (Ao4 e && e.Args.all okE) := by cases e; rw [okE, Az9]
theorem JL {n : Nat} {l : List TE} {fn1 : TE → Option Bool} {b : TE → Bool} (hn : l.length < n) (hs : MA l) (hf : ∀ x, x ∈ l → fn1 x = some (b x)) : ∃ v, BM n l fn1 = some v ∧ (0 ≤ v ↔ l.any b = true) := by
 unfold BM
 have := BW (l := l) (F := fun m (_ : Unit) v => AS l fn1 m v) (g := fun _ i x => if b x then .inl (some (i : Int)) else .inr ()) (fin := fun _ => some (-1))
   (fun m i x u hx => by
     have hlt := BN hx
     show AS l fn1 (m + 1) (i : Int) = _
     rw [AS, BT, Bn, hx]
     have h1 : (i : Int) < (l.length : Int) := by omega
     simp only [h1, decide_true, cond_true, Option.bind_some, hf x (List.mem_of_getElem? hx)]
     cases b x
     · simp only [cond_false, Bool.false_eq_true, if_false]; rw [Bj (by omega)]
     · rfl)
   (fun m u => by
     show AS l fn1 (m + 1) _ = _
     rw [AS, BT]; simp) (m := n) hn ()
 rw [this]
 exact NO b l 0 ()
theorem FA {n : Nat} {l : List TE} {fn1 : TE → Option Bool} {b : TE → Bool} (hn : l.length < n) (hs : MA l) (hf : ∀ x, x ∈ l → fn1 x = some (b x)) : Bp n l fn1 = some (l.any b) := by
 obtain ⟨v, h1, h2⟩ := JL hn hs hf
 rw [Bp, h1]
 simp only [Option.bind_some]
 congr 1
 rw [Bool.eq_iff_iff, decide_eq_true_iff]
 exact h2
theorem JI {n : Nat} {l : List TS} {fn1 : TS → Option Bool} {b : TS → Bool} (hn : l.length < n) (hs : MA l) (hf : ∀ x, x ∈ l → fn1 x = some (b x)) : ∃ v, BK n l fn1 = some v ∧ (0 ≤ v ↔ l.any b = true) := by
 unfold BK
 have := BW (l := l) (F := fun m (_ : Unit) v => AT l fn1 m v) (g := fun _ i x => if b x then .inl (some (i : Int)) else .inr ()) (fin := fun _ => some (-1))
   (fun m i x u hx => by
     have hlt := BN hx
     show AT l fn1 (m + 1) (i : Int) = _
     rw [AT, BU, Bn, hx]
     have h1 : (i : Int) < (l.length : Int) := by omega
     simp only [h1, decide_true, cond_true, Option.bind_some, hf x (List.mem_of_getElem? hx)]
     cases b x
     · simp only [cond_false, Bool.false_eq_true, if_false]; rw [Bj (by omega)]
     · rfl)
   (fun m u => by
     show AT l fn1 (m + 1) _ = _
     rw [AT, BU]; simp) (m := n) hn ()
 rw [this]
 exact NO b l 0 ()
theorem IR {n : Nat} {l : List TS} {fn1 : TS → Option Bool} {b : TS → Bool} (hn : l.length < n) (hs : MA l) (hf : ∀ x, x ∈ l → fn1 x = some (b x)) : Bw n l fn1 = some (l.any b) := by
 obtain ⟨v, h1, h2⟩ := JI hn hs hf
 rw [Bw, h1]
 simp only [Option.bind_some]
 congr 1
 rw [Bool.eq_iff_iff, decide_eq_true_iff]
 exact h2
theorem Ai3 {e : TE} (h : LimE e) : Ev (fun n => CR n e) (okE e) := by
 induction h with
 | mk e hl hk ih =>
   obtain ⟨N1, h1⟩ := AB9 e
   obtain ⟨N2, h2⟩ := Ev.all (l := e.Args) (f := fun n a => CR n a) (r := okE) ih
   refine ⟨N1 + N2 + 20, fun n hn => ?_⟩
   obtain ⟨m, rfl⟩ : ∃ m, n = m + 2 := ⟨n - 2, by omega⟩
   have h1 := h1 (m + 1) (by omega)
   simp only at h1
   have hf : ∀ x, x ∈ e.Args → DC (m + 1) x = some (!okE x) := fun x hx => by
     rw [DC, HO, h2 m (by omega) x hx]; rfl
   show CR (m + 2) e = _
   rw [CR, IX, h1, Option.bind_some, Ag7]
   simp only [G5]
   rw [FA (b := fun x => !okE x) (by omega) (by omega) hf]
   rw [Ah7, Ao4]
   have e1 : (!e.Args.any fun x => !okE x) = e.Args.all okE := by rw [Bool.eq_iff_iff]; simp
   simp only [Option.bind_some, e1]
   cases decide (FB e.Op = (e.Args.length : Int)) <;> cases Ro e <;> rfl
theorem ZW {e : TE} {s : TE → Option Bool} {n : Nat} (hl : e.Args.length ≤ 10) (hn : 10 < n) (hs : ∀ a, a ∈ e.Args → s a = some (okE a)) (v9 : Int) (v10 v11 v12 : ByteArray) (v13 : Int) :
   BJ e s n v9 v10 v11 v12 v13 = some (decide (e.N = v9) && (decide (e.S = v10) && (decide (e.Name = v11) && (decide (e.Src = v12) && (decide ((e.Args.length : Int) = v13) && e.Args.all okE))))) := by
 have hloop : (e.Args.length : Int) = v13 → Bu e s v13 n 0 = some (e.Args.all okE) := fun hv => by
   subst hv
   have := BW (l := e.Args) (F := fun m (_ : Unit) v => Bu e s (e.Args.length : Int) m v) (g := fun _ _ x => if okE x then .inr () else .inl (some false)) (fin := fun _ => some true)
     (fun m i x u hx => by
       have hlt := BN hx
       show Bu e s _ (m + 1) (i : Int) = _
       rw [Bu, Eb, Bn, hx]
       have h1 : (i : Int) < (e.Args.length : Int) := by omega
       simp only [h1, decide_true, cond_true, Option.bind_some, hs x (List.mem_of_getElem? hx)]
       cases okE x
       · rfl
       · simp only [Bool.not_true, cond_false, if_true]; rw [Bj (by omega)])
     (fun m u => by
       show Bu e s _ (m + 1) _ = _
       rw [Bu, Eb]; simp) (m := n) (by omega) ()
   rw [this, Uq]
 simp only [BJ, DU, DR, DS, DL]
 by_cases h9 : e.N = v9 <;> by_cases h10 : e.S = v10 <;> by_cases h11 : e.Name = v11 <;> by_cases h12 : e.Src = v12 <;> by_cases h13 : (e.Args.length : Int) = v13 <;> simp [h9, h10, h11, h12, h13]
 all_goals (first | (rw [← h13]; exact hloop h13) | skip)
 all_goals exact hloop h13
theorem Xm {e : TE} (h : LimE e) : Ev (fun n => By n e) (okE e) := by
 induction h with
 | mk e hl hk ih =>
   obtain ⟨N1, h1⟩ := GX e.Name
   obtain ⟨N2, h2⟩ := GX e.S
   obtain ⟨N3, h3⟩ := GX e.Src
   obtain ⟨N4, h4⟩ := Ev.all (l := e.Args) (f := fun n a => By n a) (r := okE) ih
   refine ⟨N1 + N2 + N3 + N4 + 20, fun n hn => ?_⟩
   obtain ⟨m, rfl⟩ : ∃ m, n = m + 1 := ⟨n - 1, by omega⟩
   have h1 := h1 m (by omega)
   have h2 := h2 m (by omega)
   have h3 := h3 m (by omega)
   simp only at h1 h2 h3
   show By (m + 1) e = _
   have ht := ZW (s := By m) (n := m) hl (by omega) (fun a ha => h4 m (by omega) a ha)
   rw [By, Ah7, Ao4]
   simp only [Fp, Dl, DN, DK, DO, DQ, h1, h2, h3, ht, Option.bind_some]
   have e0 : ∀ a b : ByteArray, decide (a = b) = decide (b = a) := fun a b => by rw [decide_eq_decide]; exact eq_comm
   have en : decide (e.N = 0) = decide (0 = e.N) := by rw [decide_eq_decide]; exact eq_comm
   have el : decide ((e.Args.length : Int) = 0) = decide (0 = (e.Args.length : Int)) := by rw [decide_eq_decide]; exact eq_comm
   have el1 : decide ((e.Args.length : Int) = 1) = decide (1 = (e.Args.length : Int)) := by rw [decide_eq_decide]; exact eq_comm
   have el2 : decide ((e.Args.length : Int) = 2) = decide (2 = (e.Args.length : Int)) := by rw [decide_eq_decide]; exact eq_comm
   have emax : decide (e.N = max e.N 0) = decide (0 ≤ e.N) := by rw [decide_eq_decide]; omega
   have emm : decide (e.N = min (max e.N 0) 1) = decide (0 ≤ e.N ∧ e.N ≤ 1) := by rw [decide_eq_decide]; omega
   have e200 : (decide ((200 : Int) < (e.S.size : Int))) = !decide (e.S.size ≤ 200) := by rw [Bool.eq_iff_iff]; simp; omega
   rw [e0 e.S ⟨#[]⟩, e0 e.Name ⟨#[]⟩, e0 e.Src ⟨#[]⟩, en, el, el1, el2, emax, emm, e200]
   simp only [decide_true, Bool.true_and]
   unfold Ro
   generalize Cf e.Name = b1
   generalize Cf e.S = b2
   generalize Cf e.Src = b3
   generalize e.Args.all okE = b4
   generalize decide ((⟨#[]⟩ : ByteArray) = e.S) = b5
   generalize decide ((⟨#[]⟩ : ByteArray) = e.Name) = b6
   generalize decide ((⟨#[]⟩ : ByteArray) = e.Src) = b7
   generalize decide (0 = e.N) = b8
   generalize decide (e.S.size ≤ 200) = b9
   generalize decide (0 ≤ e.N) = b10
   generalize decide (0 ≤ e.N ∧ e.N ≤ 1) = b11
   have ar : FB e.Op = FB e.Op := rfl
   by_cases o1 : e.Op = 1
   · simp only [o1, decide_true, cond_true, if_true, show FB 1 = 0 from rfl]
     generalize decide (0 = (e.Args.length : Int)) = b12
     revert b5 b6 b7 b10 b12 b4; decide
   by_cases o2 : e.Op = 2
   · simp only [o1, o2, decide_true, decide_false, cond_true, cond_false, if_true, if_false, Int.reduceEq, show FB 2 = 0 from rfl]
     generalize decide (0 = (e.Args.length : Int)) = b12
     revert b6 b7 b8 b9 b12 b4; decide
   by_cases o3 : e.Op = 3
   · simp only [o1, o2, o3, decide_true, decide_false, cond_true, cond_false, if_true, if_false, Int.reduceEq, show FB 3 = 0 from rfl]
     generalize decide (0 = (e.Args.length : Int)) = b12
     revert b5 b6 b7 b11 b12 b4; decide
   by_cases o4 : e.Op = 4
   · simp only [o1, o2, o3, o4, decide_true, decide_false, cond_true, cond_false, if_true, if_false, Int.reduceEq, show FB 4 = 0 from rfl, show ¬ (4 : Int) = 5 by decide, show ¬ (5 : Int) < 4 by decide]
     generalize decide (0 = (e.Args.length : Int)) = b12
     revert b1 b5 b7 b8 b12 b4; decide
   by_cases o5 : e.Op = 5
   · simp only [o1, o2, o3, o4, o5, decide_true, decide_false, cond_true, cond_false, if_true, if_false, Int.reduceEq, show FB 5 = 0 from rfl, show ¬ (5 : Int) < 5 by decide]
     generalize decide (0 = (e.Args.length : Int)) = b12
     revert b1 b2 b7 b8 b12 b4; decide
   simp only [o1, o2, o3, o4, o5, decide_false, cond_false, if_false]
   by_cases o21 : e.Op = 21
   · simp only [o21, show KM 21 = true from rfl, show FB 21 = 1 from rfl, show (21 : Int) ≤ 21 by decide, show (21 : Int) ≤ 24 by decide, show (5 : Int) < 21 by decide, decide_true, cond_true, if_true]
     generalize decide (1 = (e.Args.length : Int)) = b12
     revert b1 b3 b5 b8 b12 b4; decide
   by_cases o22 : 22 ≤ e.Op ∧ e.Op ≤ 24
   · have q1 : KM e.Op = true := by simp [KM]; omega
     have q2 : FB e.Op = 2 := by unfold FB; repeat' split <;> try omega
     simp only [q1, q2, o21, show (21 : Int) ≤ e.Op by omega, show e.Op ≤ 24 by omega, show (5 : Int) < e.Op by omega, decide_true, decide_false, cond_true, cond_false, if_true]
     generalize decide (2 = (e.Args.length : Int)) = b12
     revert b1 b3 b5 b8 b12 b4; decide
   have hr : KM e.Op = false := by simp [KM]; omega
   simp only [hr, Bool.false_eq_true, if_false]
   have n21 : (bif decide ((21 : Int) ≤ e.Op) then decide (e.Op ≤ 24) else false) = false := by
     by_cases h : (21 : Int) ≤ e.Op
     · simp only [h, decide_true, cond_true]; simp; omega
     · simp [h]
   by_cases h21 : (21 : Int) ≤ e.Op
   · have h24 : ¬ e.Op ≤ 24 := by omega
     have q2 : FB e.Op = -1 := by unfold FB; repeat' split <;> try omega
     have q3 : decide ((-1 : Int) = (e.Args.length : Int)) = false := decide_eq_false (by omega)
     simp only [h21, h24, q2, q3, show (6 : Int) ≤ e.Op by omega, show ¬ e.Op ≤ 18 by omega, show ¬ e.Op = 19 by omega, show ¬ e.Op = 20 by omega, decide_true, decide_false, cond_true, cond_false, Bool.false_and]
   · simp only [h21, decide_false, cond_false]
     by_cases o6 : 6 ≤ e.Op ∧ e.Op ≤ 18
     · have q2 : FB e.Op = 2 := by unfold FB; repeat' split <;> try omega
       simp only [o6.1, o6.2, q2, decide_true, cond_true]
       generalize decide (2 = (e.Args.length : Int)) = b12
       revert b5 b6 b7 b8 b12 b4; decide
     · by_cases o19 : e.Op = 19 ∨ e.Op = 20
       · have q2 : FB e.Op = 1 := by unfold FB; repeat' split <;> try omega
         have h6 : (6 : Int) ≤ e.Op := by omega
         have h18 : ¬ e.Op ≤ 18 := by omega
         simp only [h6, h18, q2, decide_true, decide_false, cond_true, cond_false]
         generalize decide (1 = (e.Args.length : Int)) = b12
         rcases o19 with o | o
         · simp only [o, decide_true, cond_true]; revert b5 b6 b7 b8 b12 b4; decide
         · simp only [o, show ¬ (20 : Int) = 19 by decide, decide_true, decide_false, cond_true, cond_false]; revert b5 b6 b7 b8 b12 b4; decide
       · have q2 : FB e.Op = -1 := by unfold FB; repeat' split <;> try omega
         have q3 : decide ((-1 : Int) = (e.Args.length : Int)) = false := decide_eq_false (by omega)
         have h19 : ¬ e.Op = 19 := by omega
         have h20 : ¬ e.Op = 20 := by omega
         simp only [q2, q3, h19, h20, decide_false, cond_false, Bool.false_and]
         by_cases h6 : (6 : Int) ≤ e.Op
         · have h18 : ¬ e.Op ≤ 18 := by omega
           simp only [h6, h18, decide_true, decide_false, cond_true, cond_false]
         · simp only [h6, decide_false, cond_false]
end Go.Ax
set_option linter.unusedVariables false
set_option linter.unusedSimpArgs false
namespace Go.Ax
inductive LimS : TS → Prop
 | mk (x : TS) (h0 : x.Cols.length ≤ 12) (h1 : x.Exprs.length ≤ 10) (h2 : x.Body.length ≤ 10) (h3 : x.Else.length ≤ 10) (he : ∀ a, a ∈ x.Exprs → LimE a) (hb : ∀ a, a ∈ x.Body → LimS a) (hc : ∀ a, a ∈ x.Else → LimS a) : LimS x
def nmO (op : Int) : Bool := decide (op = 1 ∨ op = 2 ∨ op = 4 ∨ op = 5 ∨ op = 6)
def srO (op : Int) : Bool := decide (op = 3 ∨ op = 4 ∨ op = 5 ∨ op = 6 ∨ op = 8)
def coO (op : Int) : Bool := decide (op = 4)
def nuO (op : Int) : Bool := decide (op = 6)
def boO (op : Int) : Bool := decide (op = 6 ∨ op = 7)
def otO (op : Int) : Bool := decide (op = 7)
def maO (op : Int) : Bool := decide (op = 3 ∨ op = 8 ∨ op = 10)
def Yd (b : Bool) (s : ByteArray) : Bool := bif b then Cf s else decide (s = (⟨#[]⟩ : ByteArray))
def Kc (b : Bool) (l : List ByteArray) : Bool := bif b then decide (1 ≤ l.length) && (decide (l.length ≤ 8) && (l.all Cf && decide l.Nodup)) else decide (l.length = 0)
def Rz (b : Bool) (n : Int) : Bool := bif b then decide (0 ≤ n) && decide (n ≤ 1000) else decide (n = 0)
def Me (bo ot : Bool) (x : TS) : Bool := (bo || decide (x.Body.length = 0)) && (ot || decide (x.Else.length = 0))
def RC (op : Int) (x : TS) : Bool := bif maO op then decide (1 ≤ x.Exprs.length) && decide (x.Exprs.length ≤ 8) else decide (x.Exprs.length = 1 + x.Cols.length)
def EW (x : TS) : Bool := decide (1 ≤ x.Op ∧ x.Op ≤ 10) && (Yd (nmO x.Op) x.Name && (Yd (srO x.Op) x.Src && (Kc (coO x.Op) x.Cols && (Rz (nuO x.Op) x.N && (RC x.Op x && Me (boO x.Op) (otO x.Op) x)))))
theorem Zu (b : Bool) (s : ByteArray) : Ev (fun n => Gi n (Qz b s)) (!b || Cf s) := by
 cases b
 · obtain ⟨N, h⟩ := KW [] (by simp)
   exact ⟨N, fun n hn => h n hn⟩
 · obtain ⟨N, h⟩ := KW [s] (by simp)
   exact ⟨N, fun n hn => by have := h n hn; simpa [Qz] using this⟩
theorem Af2 : Cf (⟨#[]⟩ : ByteArray) = false := by decide
theorem Yl (a b c : Nat) : C7 (a : Int) (b : Int) (c : Int) = (decide (b ≤ a) && decide (a ≤ c)) := by
 unfold C7
 by_cases h : b ≤ a
 · have : (b : Int) ≤ (a : Int) := by omega
   simp [h, this]
 · have : ¬ (b : Int) ≤ (a : Int) := by omega
   simp [h, this]
theorem An9 (x : TS) (h0 : x.Cols.length ≤ 12) (v3 v4 v5 v6 v7 v10 : Bool) (lo hi : Nat) :
   Ev (fun n => Dg x n v3 v4 v5 v6 v7 (lo : Int) (hi : Int) v10) (Yd v3 x.Name && (Yd v10 x.Src && (Kc v4 x.Cols && (Rz v5 x.N && ((decide (lo ≤ x.Exprs.length) && decide (x.Exprs.length ≤ hi)) && Me v6 v7 x))))) := by
 obtain ⟨N1, h1⟩ := Zu v3 x.Name
 obtain ⟨N2, h2⟩ := Zu v10 x.Src
 obtain ⟨N3, h3⟩ := KW x.Cols (by unfold MA; omega)
 refine ⟨N1 + N2 + N3, fun n hn => ?_⟩
 have h1 := h1 n (by omega)
 have h2 := h2 n (by omega)
 have h3 := h3 n (by omega)
 simp only at h1 h2 h3
 have hu : M4 x.Cols = some (decide x.Cols.Nodup) := by unfold M4; rw [if_pos (by omega)]
 have hw1 : C7 (x.Cols.length : Int) 1 8 = (decide (1 ≤ x.Cols.length) && decide (x.Cols.length ≤ 8)) := Yl x.Cols.length 1 8
 have hw2 : C7 (x.Exprs.length : Int) (lo : Int) (hi : Int) = _ := Yl x.Exprs.length lo hi
 have hw3 : C7 x.N 0 1000 = (decide (0 ≤ x.N) && decide (x.N ≤ 1000)) := by
   unfold C7; cases decide (0 ≤ x.N) <;> rfl
 have d1 : decide ((x.Body.length : Int) = 0) = decide (x.Body.length = 0) := by rw [decide_eq_decide]; omega
 have d2 : decide ((x.Else.length : Int) = 0) = decide (x.Else.length = 0) := by rw [decide_eq_decide]; omega
 have d3 : decide ((x.Cols.length : Int) = 0) = decide (x.Cols.length = 0) := by rw [decide_eq_decide]; omega
 have J7 : ∀ t, HA x v7 t = some (t && (v7 || decide (x.Else.length = 0))) := fun t => by
   rw [HA, d2]; cases t <;> cases v7 <;> rfl
 have J6 : ∀ t, IJ x v6 v7 t = some (t && Me v6 v7 x) := fun t => by
   rw [IJ, J7, J7, J7, d1, Me]; cases t <;> cases v6 <;> simp
 have J5 : ∀ t, Fh x v6 v7 (lo : Int) (hi : Int) t = some (t && ((decide (lo ≤ x.Exprs.length) && decide (x.Exprs.length ≤ hi)) && Me v6 v7 x)) := fun t => by
   rw [Fh, J6, J6, hw2]; cases t <;> simp
 have J4 : ∀ t, De x v5 v6 v7 (lo : Int) (hi : Int) t = some (t && (Rz v5 x.N && ((decide (lo ≤ x.Exprs.length) && decide (x.Exprs.length ≤ hi)) && Me v6 v7 x))) := fun t => by
   rw [De, J5, J5, J5, hw3, Rz]; cases t <;> cases v5 <;> simp
   cases decide (0 ≤ x.N) <;> cases decide (x.N ≤ 1000) <;> simp
 have J3 : ∀ t, HD x n v4 v5 v6 v7 (lo : Int) (hi : Int) t = some (t && (Kc v4 x.Cols && (Rz v5 x.N && ((decide (lo ≤ x.Exprs.length) && decide (x.Exprs.length ≤ hi)) && Me v6 v7 x)))) := fun t => by
   rw [HD, J4, J4, J4, hw1, h3, hu, d3, Kc]
   simp only [Option.bind_some]
   generalize x.Cols.all Cf = b5
   generalize decide x.Cols.Nodup = b6
   generalize decide (1 ≤ x.Cols.length) = b7
   generalize decide (x.Cols.length ≤ 8) = b8
   cases t <;> cases v4 <;> simp
   cases b5 <;> cases b6 <;> cases b7 <;> cases b8 <;> simp
 have J2 : ∀ t, Hu x n v4 v5 v6 v7 (lo : Int) (hi : Int) v10 t = some (t && ((v10 || decide (x.Src = (⟨#[]⟩ : ByteArray))) && (Kc v4 x.Cols && (Rz v5 x.N && ((decide (lo ≤ x.Exprs.length) && decide (x.Exprs.length ≤ hi)) && Me v6 v7 x))))) := fun t => by
   rw [Hu, J3, J3, J3]; cases t <;> cases v10 <;> simp
 have J1 : ∀ t, IQ x n v3 v4 v5 v6 v7 (lo : Int) (hi : Int) v10 t = some (t && ((v3 || decide (x.Name = (⟨#[]⟩ : ByteArray))) && ((v10 || decide (x.Src = (⟨#[]⟩ : ByteArray))) && (Kc v4 x.Cols && (Rz v5 x.N && ((decide (lo ≤ x.Exprs.length) && decide (x.Exprs.length ≤ hi)) && Me v6 v7 x)))))) := fun t => by
   rw [IQ, J2, J2, J2]; cases t <;> cases v3 <;> simp
 show Dg x n v3 v4 v5 v6 v7 (lo : Int) (hi : Int) v10 = _
 rw [Dg, h1, h2]
 simp only [Option.bind_some, J1, Yd]
 generalize (Kc v4 x.Cols && (Rz v5 x.N && ((decide (lo ≤ x.Exprs.length) && decide (x.Exprs.length ≤ hi)) && Me v6 v7 x))) = t
 cases v3 <;> cases v10 <;> simp
 · cases decide (x.Name = (⟨#[]⟩ : ByteArray)) <;> cases Cf x.Src <;> simp
 · cases Cf x.Name <;> simp
 · cases Cf x.Name <;> cases Cf x.Src <;> simp
theorem AI7 (x : TS) (h0 : x.Cols.length ≤ 12) : Ev (fun n => DY n x) (EW x) := by
 have hw : IntKind.wrap .i64 ((x.Cols.length : Int) + 1) = ((x.Cols.length + 1 : Nat) : Int) := Bj (by omega)
 have key : ∀ (v3 v4 v5 v6 v7 v10 : Bool) (lo hi : Nat), (∀ n, DY n x = Dg x n v3 v4 v5 v6 v7 (lo : Int) (hi : Int) v10) →
     ((Yd v3 x.Name && (Yd v10 x.Src && (Kc v4 x.Cols && (Rz v5 x.N && ((decide (lo ≤ x.Exprs.length) && decide (x.Exprs.length ≤ hi)) && Me v6 v7 x))))) = EW x) → Ev (fun n => DY n x) (EW x) :=
   fun v3 v4 v5 v6 v7 v10 lo hi h1 h2 => h2 ▸ (An9 x h0 v3 v4 v5 v6 v7 v10 lo hi).of h1
 have one : (decide (1 ≤ x.Exprs.length) && decide (x.Exprs.length ≤ 1)) = decide (x.Exprs.length = 1) := by rw [Bool.eq_iff_iff]; simp; omega
 have cnt : (decide (x.Cols.length + 1 ≤ x.Exprs.length) && decide (x.Exprs.length ≤ x.Cols.length + 1)) = decide (x.Exprs.length = 1 + x.Cols.length) := by rw [Bool.eq_iff_iff]; simp; omega
 have nocols : ∀ t : Bool, (Kc false x.Cols && (Rz false x.N && (decide (x.Exprs.length = 1) && t))) = (Kc false x.Cols && (Rz false x.N && (decide (x.Exprs.length = 1 + x.Cols.length) && t))) := fun t => by
   simp only [Kc, cond_false]
   by_cases h : x.Cols.length = 0
   · simp [h]
   · simp [h]
 have nocols2 : ∀ t : Bool, (Kc false x.Cols && (Rz true x.N && (decide (x.Exprs.length = 1) && t))) = (Kc false x.Cols && (Rz true x.N && (decide (x.Exprs.length = 1 + x.Cols.length) && t))) := fun t => by
   simp only [Kc, cond_false]
   by_cases h : x.Cols.length = 0
   · simp [h]
   · simp [h]
 by_cases o1 : x.Op = 1
 · exact key true false false false false false 1 1 (fun n => by simp [DY, C0, o1]) (by rw [one]; simp only [EW, RC, o1]; rw [nocols]; rfl)
 by_cases o2 : x.Op = 2
 · exact key true false false false false false 1 1 (fun n => by simp [DY, C0, o2]) (by rw [one]; simp only [EW, RC, o2]; rw [nocols]; rfl)
 by_cases o3 : x.Op = 3
 · exact key false false false false false true 1 8 (fun n => by simp [DY, C0, Dq, o3]) (by simp only [EW, RC, o3]; rfl)
 by_cases o8 : x.Op = 8
 · exact key false false false false false true 1 8 (fun n => by simp [DY, C0, Dq, o8]) (by simp only [EW, RC, o8]; rfl)
 by_cases o4 : x.Op = 4
 · exact key true true false false false true (x.Cols.length + 1) (x.Cols.length + 1) (fun n => by simp [DY, C0, Dq, o4, hw]) (by rw [cnt]; simp only [EW, RC, o4]; rfl)
 by_cases o5 : x.Op = 5
 · exact key true false false false false true 1 1 (fun n => by simp [DY, C0, Dq, o5]) (by rw [one]; simp only [EW, RC, o5]; rw [nocols]; rfl)
 by_cases o6 : x.Op = 6
 · exact key true false true true false true 1 1 (fun n => by simp [DY, C0, Dq, o6]) (by rw [one]; simp only [EW, RC, o6]; rw [nocols2]; rfl)
 by_cases o7 : x.Op = 7
 · exact key false false false true true false 1 1 (fun n => by simp [DY, C0, Dq, o7]) (by rw [one]; simp only [EW, RC, o7]; rw [nocols]; rfl)
 by_cases o9 : x.Op = 9
 · exact key false false false false false false 1 1 (fun n => by simp [DY, C0, Dq, o9]) (by rw [one]; simp only [EW, RC, o9]; rw [nocols]; rfl)
 by_cases o10 : x.Op = 10
 · exact key false false false false false false 1 8 (fun n => by simp [DY, C0, Dq, o10]) (by simp only [EW, RC, o10]; rfl)
 have hf : Ev (fun n => DY n x) false := ⟨0, fun n _ => by simp [DY, C0, Dq, o1, o2, o3, o4, o5, o6, o7, o8, o9, o10]⟩
 have : EW x = false := by
   have : ¬ (1 ≤ x.Op ∧ x.Op ≤ 10) := by omega
   simp [EW, this]
 rw [this]; exact hf
mutual
def okS : TS → Bool
 | ⟨op, name, src, n, cols, exprs, body, els⟩ => EW ⟨op, name, src, n, cols, exprs, body, els⟩ && (exprs.all okE && (AF9 body && AF9 els))
def AF9 : List TS → Bool
 | [] => true
 | a :: l => okS a && AF9 l
end
theorem Ag6 : ∀ l : List TS, AF9 l = l.all okS
 | [] => rfl
 | a :: l => by rw [AF9, Ag6 l]; rfl
theorem Aj2 (x : TS) : okS x = (EW x && (x.Exprs.all okE && (x.Body.all okS && x.Else.all okS))) := by cases x; rw [okS, Ag6, Ag6]
theorem Vy {l : List TS} (hl : l.length ≤ 100) {N : Nat} (h : ∀ n, N ≤ n → ∀ x, x ∈ l → EM n x = some (okS x)) : ∀ n, N + 103 ≤ n → EH n l = some (l.all okS) := fun n hn => by
 obtain ⟨m, rfl⟩ : ∃ m, n = m + 2 := ⟨n - 2, by omega⟩
 have hf : ∀ x, x ∈ l → EF (m + 1) x = some (!okS x) := fun x hx => by
   rw [EF, JQ, h m (by omega) x hx]; rfl
 rw [EH, Mp, IR (b := fun x => !okS x) (by omega) (by unfold MA; omega) hf]
 have e1 : (!l.any fun x => !okS x) = l.all okS := by rw [Bool.eq_iff_iff]; simp
 simp only [Option.bind_some, e1]
theorem AE7 {x : TS} (h : LimS x) : Ev (fun n => EM n x) (okS x) := by
 induction h with
 | mk x h0 h1 h2 h3 he hb hc ihb ihc =>
   obtain ⟨N1, g1⟩ := AI7 x h0
   obtain ⟨N2, g2⟩ := Ev.all (l := x.Exprs) (f := fun n a => CR n a) (r := okE) (fun a ha => Ai3 (he a ha))
   obtain ⟨N3, g3⟩ := Ev.all (l := x.Body) (f := fun n a => EM n a) (r := okS) ihb
   obtain ⟨N4, g4⟩ := Ev.all (l := x.Else) (f := fun n a => EM n a) (r := okS) ihc
   refine ⟨N1 + N2 + N3 + N4 + 120, fun n hn => ?_⟩
   obtain ⟨m, rfl⟩ : ∃ m, n = m + 1 := ⟨n - 1, by omega⟩
   have g1 := g1 m (by omega)
   simp only at g1
   have hf : ∀ a, a ∈ x.Exprs → JM m a = some (!okE a) := fun a ha => by
     rw [JM, g2 m (by omega) a ha]; rfl
   show EM (m + 1) x = _
   rw [EM, OX, g1, Option.bind_some, FA (b := fun x => !okE x) (by omega) (by unfold MA; omega) hf]
   have e1 : (!x.Exprs.any fun x => !okE x) = x.Exprs.all okE := by rw [Bool.eq_iff_iff]; simp
   simp only [Option.bind_some, e1, JX, Ki, Vy (by omega) g3 m (by omega), Vy (by omega) g4 m (by omega)]
   rw [Aj2]
   cases EW x <;> cases x.Exprs.all okE <;> cases x.Body.all okS <;> simp
theorem AC2 {l : List TS} (hl : l.length ≤ 100) (h : ∀ x, x ∈ l → LimS x) : Ev (fun n => EH n l) (l.all okS) := by
 obtain ⟨N, g⟩ := Ev.all (l := l) (f := fun n a => EM n a) (r := okS) (fun a ha => AE7 (h a ha))
 exact ⟨N + 103, Vy hl g⟩
end Go.Ax
set_option linter.unusedVariables false
set_option linter.unusedSimpArgs false
namespace Go.Ax
theorem Af6 (s : ByteArray) (c : Int) (hs : s.size ≤ 100) {n : Nat} (hn : 101 ≤ n) : FP n s c = some ((DW s).any fun x => decide (x = c)) := by
 have hl := Sk s
 unfold FP
 have := BW (l := DW s) (F := fun m (_ : Unit) v => EG s c m v) (g := fun _ _ x => if decide (x = c) then .inl (some true) else .inr ()) (fin := fun _ => some false)
   (fun m i x u hx => by
     have hlt := BN hx
     show EG s c (m + 1) (i : Int) = _
     rw [EG, JP, Ys, hx]
     have h1 : (i : Int) < (s.size : Int) := by omega
     simp only [h1, decide_true, cond_true, Option.bind_some]
     cases decide (x = c)
     · simp only [cond_false, Bool.false_eq_true, if_false]; rw [Bj (by omega)]
     · rfl)
   (fun m u => by
     show EG s c (m + 1) _ = _
     rw [EG, JP, hl]; simp) (m := n) (by omega) ()
 rw [this]
 have key : ∀ (l : List Int) (i : Nat) (u : Unit), runL (ρ := Bool) (fun _ _ x => if decide (x = c) then .inl (some true) else .inr ()) (fun _ => some false) l i u = some (l.any fun x => decide (x = c)) := by
   intro l
   induction l with
   | nil => intro i u; rfl
   | cons x r ih =>
     intro i u
     rw [runL, List.any_cons]
     cases decide (x = c)
     · simp only [Bool.false_eq_true, if_false, ih, Bool.false_or]
     · rfl
 exact key _ _ _
theorem QX {α ρ : Type} (p : α → Bool) (v t : Option ρ) : ∀ (l : List α) (i : Nat) (u : Unit), runL (fun _ _ x => if p x then .inl v else .inr ()) (fun _ => t) l i u = if l.any p then v else t
 | [], i, u => rfl
 | x :: r, i, u => by
   rw [runL, List.any_cons]
   cases h : p x
   · simp only [Bool.false_eq_true, if_false, Bool.false_or]; exact QX p v t r _ _
   · simp
def Gp (pre : List ByteArray) : List ByteArray → Bool
 | [] => true
 | x :: r => !(pre.any fun y => decide (y = x)) && Gp (pre ++ [x]) r
theorem R8 : ∀ (l pre : List ByteArray), Gp pre l = true ↔ l.Nodup ∧ ∀ x, x ∈ l → ¬ x ∈ pre
 | [], pre => by simp [Gp]
 | x :: r, pre => by
   rw [Gp, Bool.and_eq_true, R8 r, List.nodup_cons]
   have e : (!(pre.any fun y => decide (y = x))) = true ↔ ¬ x ∈ pre := by
     rw [Bool.not_eq_true', List.any_eq_false]
     constructor
     · intro h hm; exact h x hm (by simp)
     · intro h y hy he
       have := of_decide_eq_true he
       subst this; exact h hy
   rw [e]
   constructor
   · rintro ⟨h1, h2, h3⟩
     refine ⟨⟨fun hm => h3 x hm (by simp), h2⟩, fun y hy => ?_⟩
     rcases List.mem_cons.1 hy with rfl | hy
     · exact h1
     · exact fun hm => h3 y hy (by simp [hm])
   · rintro ⟨⟨h1, h2⟩, h3⟩
     refine ⟨h3 x (by simp), h2, fun y hy hm => ?_⟩
     rcases List.mem_append.1 hm with hm | hm
     · exact h3 y (by simp [hy]) hm
     · have : y = x := by simpa using hm
       subst this; exact h1 hy
theorem RZ (l : List ByteArray) : Gp [] l = decide l.Nodup := by
 rw [Bool.eq_iff_iff, R8, decide_eq_true_iff]; simp
theorem AB7 {x : TS} {s : List TS → Option Bool} {n : Nat} (h0 : x.Cols.length ≤ 12) (hn : 100 ≤ n) (hf : ∀ c, c ∈ x.Cols → Dr n c = some (Cf c)) {t : Option Bool} (ht : FI x s n = t) :
   CA x s n = if (x.Cols.all Cf && decide x.Cols.Nodup) = true then t else some false := by
 have inner : ∀ (i : Nat) (c : ByteArray) (rec : Int → Option Bool), x.Cols[i]? = some c → Cn x (i : Int) rec n 0 = if ((x.Cols.take i).any fun y => decide (y = c)) = true then some false else rec ((i + 1 : Nat) : Int) := by
   intro i c rec hc
   have hi := BN hc
   have hlen : (x.Cols.take i).length = i := by rw [List.length_take]; omega
   have := BW (l := x.Cols.take i) (F := fun m (_ : Unit) v => Cn x (i : Int) rec m v) (g := fun _ _ y => if decide (y = c) then .inl (some false) else .inr ()) (fin := fun _ => rec ((i + 1 : Nat) : Int))
     (fun m k y u hy => by
       have hlt := BN hy
       have hy' : x.Cols[k]? = some y := by rw [List.getElem?_take] at hy; split at hy <;> first | exact hy | cases hy
       show Cn x (i : Int) rec (m + 1) (k : Int) = _
       rw [Cn, GV, Bn, Bn, hy', hc]
       have h1 : (k : Int) < (i : Int) := by omega
       simp only [h1, decide_true, cond_true, Option.bind_some]
       cases decide (y = c)
       · simp only [cond_false, Bool.false_eq_true, if_false]; rw [Bj (by omega)]
       · rfl)
     (fun m u => by
       show Cn x (i : Int) rec (m + 1) _ = _
       rw [Cn, GV, hlen]
       simp only [Int.lt_irrefl, decide_false, cond_false]
       rw [Bj (by omega)]) (m := n) (by omega) ()
   rw [this, QX]
 unfold CA
 have := BW (l := x.Cols) (F := fun m (_ : Unit) v => CB x s n m v) (g := fun _ i c => if (Cf c && !((x.Cols.take i).any fun y => decide (y = c))) = true then .inr () else .inl (some false)) (fin := fun _ => t)
   (fun m i c u hc => by
     have hlt := BN hc
     show CB x s n (m + 1) (i : Int) = _
     rw [CB, GJ, Bn, hc]
     have h1 : (i : Int) < (x.Cols.length : Int) := by omega
     simp only [h1, decide_true, cond_true, Option.bind_some, hf c (List.mem_of_getElem? hc), inner i c _ hc]
     cases Cf c
     · rfl
     · cases ((x.Cols.take i).any fun y => decide (y = c)) <;> rfl)
   (fun m u => by
     show CB x s n (m + 1) _ = _
     rw [CB, GJ]; simpa using ht) (m := n) (by omega) ()
 rw [this]
 have key : ∀ (r pre : List ByteArray) (i : Nat) (u : Unit), x.Cols = pre ++ r → pre.length = i → runL (fun _ i c => if (Cf c && !((x.Cols.take i).any fun y => decide (y = c))) = true then .inr () else .inl (some false)) (fun _ => t) r i u = if (r.all Cf && Gp pre r) = true then t else some false := by
   intro r
   induction r with
   | nil => intro pre i u _ _; simp [runL, Gp]
   | cons c r ih =>
     intro pre i u he hi
     have htake : x.Cols.take i = pre := by rw [he, ← hi, List.take_left]
     rw [runL, htake, List.all_cons, Gp]
     cases hfc : Cf c
     · simp
     · cases hp : (pre.any fun y => decide (y = c))
       · simp only [Bool.not_false, Bool.and_self, if_true, Bool.true_and]
         exact ih (pre ++ [c]) (i + 1) () (by rw [he]; simp) (by simp [hi])
       · simp
 rw [key x.Cols [] 0 () (by simp) rfl, RZ]
theorem Au6 {x : TS} {s : List TS → Option Bool} {n : Nat} (h1 : x.Exprs.length ≤ 10) (hn : 100 ≤ n) (hf : ∀ c, c ∈ x.Exprs → By n c = some (okE c)) {b1 b2 : Bool} (hb : s x.Body = some b1) (hc : s x.Else = some b2) :
   Fj x s n = some (x.Exprs.all okE && (b1 && b2)) := by
 unfold Fj
 have h6 : GI x s = some (b1 && b2) := by
   rw [GI, hb, hc]; cases b1 <;> rfl
 have := BW (l := x.Exprs) (F := fun m (_ : Unit) v => CC x s n m v) (g := fun _ i c => if (!okE c) = true then .inl (some false) else .inr ()) (fin := fun _ => some (b1 && b2))
   (fun m i c u hc => by
     have hlt := BN hc
     show CC x s n (m + 1) (i : Int) = _
     rw [CC, GQ, Bn, hc]
     have h1 : (i : Int) < (x.Exprs.length : Int) := by omega
     simp only [h1, decide_true, cond_true, Option.bind_some, hf c (List.mem_of_getElem? hc)]
     cases okE c
     · rfl
     · simp only [Bool.not_true, cond_false, Bool.false_eq_true, if_false]; rw [Bj (by omega)])
   (fun m u => by
     show CC x s n (m + 1) _ = _
     rw [CC, GQ]; simpa using h6) (m := n) (by omega) ()
 rw [this, QX]
 have e1 : (x.Exprs.any fun c => !okE c) = !x.Exprs.all okE := by rw [Bool.eq_iff_iff]; simp
 rw [e1]
 cases x.Exprs.all okE <;> simp
theorem AR9 {x : TS} {s : List TS → Option Bool} {n : Nat} (h0 : x.Cols.length ≤ 12) {t : Bool} (ht : Fj x s n = some t) : FI x s n = some (RC x.Op x && t) := by
 have hw : IntKind.wrap .i64 ((1 : Int) + (x.Cols.length : Int)) = ((1 + x.Cols.length : Nat) : Int) := by
   have hh := DZ (n := (1 : Int) + (x.Cols.length : Int)) (by omega) (by omega)
   rw [hh]; omega
 have e1 : decide ((x.Exprs.length : Int) < 1) = !decide (1 ≤ x.Exprs.length) := by rw [Bool.eq_iff_iff, decide_eq_true_iff, Bool.not_eq_true', decide_eq_false_iff_not]; omega
 have e2 : decide ((8 : Int) < (x.Exprs.length : Int)) = !decide (x.Exprs.length ≤ 8) := by rw [Bool.eq_iff_iff, decide_eq_true_iff, Bool.not_eq_true', decide_eq_false_iff_not]; omega
 have e3 : decide ((x.Exprs.length : Int) = ((1 + x.Cols.length : Nat) : Int)) = decide (x.Exprs.length = 1 + x.Cols.length) := by rw [decide_eq_decide]; omega
 have J4 : ∀ v, Fe x s n v = some ((bif v then decide (1 ≤ x.Exprs.length) && decide (x.Exprs.length ≤ 8) else decide (x.Exprs.length = 1 + x.Cols.length)) && t) := fun v => by
   simp only [Fe, FJ, hw, e1, e2, e3, ht]
   generalize decide (1 ≤ x.Exprs.length) = b1
   generalize decide (x.Exprs.length ≤ 8) = b2
   generalize decide (x.Exprs.length = 1 + x.Cols.length) = b3
   clear ht
   revert v b1 b2 b3 t; decide
 rw [FI, J4, J4, RC]
 have : maO x.Op = (decide (x.Op = 3) || (decide (x.Op = 8) || decide (x.Op = 10))) := by rw [Bool.eq_iff_iff]; simp [maO]
 rw [this]
 cases decide (x.Op = 3) <;> cases decide (x.Op = 8) <;> rfl
theorem AR6 {x : TS} {s : List TS → Option Bool} {n : Nat} {v2 : ByteArray} {co nu bo ot : Bool} (g1 : FP n v2 99 = some co) (g2 : FP n v2 78 = some nu) (g3 : FP n v2 98 = some bo) (g4 : FP n v2 101 = some ot) {t : Bool} (ht : CA x s n = some t) :
   CY x s n v2 = some (((co == decide (0 < x.Cols.length)) && decide (x.Cols.length ≤ 8)) && (((nu || decide (x.N = 0)) && (decide (0 ≤ x.N) && decide (x.N ≤ 1000))) && (Me bo ot x && t))) := by
 have e1 : decide ((0 : Int) < (x.Cols.length : Int)) = decide (0 < x.Cols.length) := by rw [decide_eq_decide]; omega
 have e2 : decide ((8 : Int) < (x.Cols.length : Int)) = !decide (x.Cols.length ≤ 8) := by rw [Bool.eq_iff_iff, decide_eq_true_iff, Bool.not_eq_true', decide_eq_false_iff_not]; omega
 have e3 : decide (x.N < 0) = !decide (0 ≤ x.N) := by rw [Bool.eq_iff_iff]; simp
 have e4 : decide ((1000 : Int) < x.N) = !decide (x.N ≤ 1000) := by rw [Bool.eq_iff_iff]; simp
 have e5 : decide ((0 : Int) < (x.Body.length : Int)) = !decide (x.Body.length = 0) := by rw [Bool.eq_iff_iff, decide_eq_true_iff, Bool.not_eq_true', decide_eq_false_iff_not]; omega
 have e6 : decide ((0 : Int) < (x.Else.length : Int)) = !decide (x.Else.length = 0) := by rw [Bool.eq_iff_iff, decide_eq_true_iff, Bool.not_eq_true', decide_eq_false_iff_not]; omega
 simp only [CY, g1, g2, g3, g4, ht, Option.bind_some, e1, e2, e3, e4, e5, e6, Me]
 generalize decide (0 < x.Cols.length) = a1
 generalize decide (x.Cols.length ≤ 8) = a2
 generalize decide (x.N = 0) = a3
 generalize decide (0 ≤ x.N) = a4
 generalize decide (x.N ≤ 1000) = a5
 generalize decide (x.Body.length = 0) = a6
 generalize decide (x.Else.length = 0) = a7
 cases co == a1 <;> cases a2 <;> cases nu <;> cases a3 <;> cases a4 <;> cases a5 <;> (try rfl) <;> cases bo <;> cases ot <;> cases a6 <;> cases a7 <;> cases t <;> rfl
theorem OT {l : List TS} (hl : l.length ≤ 100) {N : Nat} (h : ∀ n, N ≤ n → ∀ x, x ∈ l → Dp n x = some (okS x)) : ∀ n, N + 103 ≤ n → B3 n l = some (l.all okS) := fun n hn => by
 obtain ⟨m, rfl⟩ : ∃ m, n = m + 1 := ⟨n - 1, by omega⟩
 rw [B3, HF]
 have := BW (l := l) (F := fun k (_ : Unit) v => B7 l (Dp m) k v) (g := fun _ i c => if (!okS c) = true then .inl (some false) else .inr ()) (fin := fun _ => some true)
   (fun k i c u hc => by
     have hlt := BN hc
     show B7 l _ (k + 1) (i : Int) = _
     rw [B7, FZ, Bn, hc]
     have h1 : (i : Int) < (l.length : Int) := by omega
     simp only [h1, decide_true, cond_true, Option.bind_some, h m (by omega) c (List.mem_of_getElem? hc)]
     cases okS c
     · rfl
     · simp only [Bool.not_true, cond_false, Bool.false_eq_true, if_false]; rw [Bj (by omega)])
   (fun k u => by
     show B7 l _ (k + 1) _ = _
     rw [B7, FZ]; simp) (m := m) (by omega) ()
 rw [this, QX]
 have e1 : (l.any fun c => !okS c) = !l.all okS := by rw [Bool.eq_iff_iff]; simp
 rw [e1]
 cases l.all okS <;> rfl
theorem Ao2 {x : TS} (h : LimS x) : Ev (fun n => Dp n x) (okS x) := by
 induction h with
 | mk x h0 h1 h2 h3 he hb hc ihb ihc =>
   obtain ⟨N1, g1⟩ := GX x.Name
   obtain ⟨N1', g1'⟩ := GX x.Src
   obtain ⟨N1'', g1''⟩ := Ev.all (l := x.Cols) (f := fun n a => Dr n a) (r := Cf) (fun a _ => GX a)
   obtain ⟨N2, g2⟩ := Ev.all (l := x.Exprs) (f := fun n a => By n a) (r := okE) (fun a ha => Xm (he a ha))
   obtain ⟨N3, g3⟩ := Ev.all (l := x.Body) (f := fun n a => Dp n a) (r := okS) ihb
   obtain ⟨N4, g4⟩ := Ev.all (l := x.Else) (f := fun n a => Dp n a) (r := okS) ihc
   refine ⟨N1 + N1' + N1'' + N2 + N3 + N4 + 220, fun n hn => ?_⟩
   obtain ⟨m, rfl⟩ : ∃ m, n = m + 1 := ⟨n - 1, by omega⟩
   have g1 := g1 m (by omega)
   have g1' := g1' m (by omega)
   simp only at g1 g1'
   have g5 := Au6 (s := B3 m) (n := m) h1 (by omega) (g2 m (by omega)) (OT (by omega) g3 m (by omega)) (OT (by omega) g4 m (by omega))
   have gj3 := AR9 h0 g5
   have gj2 := AB7 h0 (by omega) (g1'' m (by omega)) gj3
   have gj2' : CA x (B3 m) m = some ((x.Cols.all Cf && decide x.Cols.Nodup) && (RC x.Op x && (x.Exprs.all okE && (x.Body.all okS && x.Else.all okS)))) := by
     rw [gj2]
     cases (x.Cols.all Cf && decide x.Cols.Nodup) <;> simp
   show Dp (m + 1) x = _
   rw [Dp, IA, Aj2]
   by_cases hop : 1 ≤ x.Op ∧ x.Op ≤ 10
   · have o1 : ¬ x.Op < 1 := by omega
     have o2 : ¬ 10 < x.Op := by omega
     simp only [o1, o2, decide_false, cond_false, EX]
     -- the fields' letters
     have fin : ∀ (v2 : ByteArray), v2.size ≤ 100 → ((DW v2).any fun y => decide (y = 110)) = nmO x.Op → ((DW v2).any fun y => decide (y = 115)) = srO x.Op → ((DW v2).any fun y => decide (y = 99)) = coO x.Op → ((DW v2).any fun y => decide (y = 78)) = nuO x.Op → ((DW v2).any fun y => decide (y = 98)) = boO x.Op → ((DW v2).any fun y => decide (y = 101)) = otO x.Op →
         ((FP m v2 (110 : Int)).bind fun v3 => (bif (!(v3 == (!decide (x.Name = (⟨#[]⟩ : ByteArray))))) then some false else ((FP m v2 (115 : Int)).bind fun v4 => (bif (!(v4 == (!decide (x.Src = (⟨#[]⟩ : ByteArray))))) then some false else ((FP m v2 (110 : Int)).bind fun v5 => (bif v5 then ((Dr m x.Name).bind fun v6 => (bif (!v6) then some false else ((FP m v2 (115 : Int)).bind fun v7 => (bif v7 then ((Dr m x.Src).bind fun v8 => (bif (!v8) then some false else (CY x (B3 m) m v2))) else (CY x (B3 m) m v2))))) else ((FP m v2 (115 : Int)).bind fun v9 => (bif v9 then ((Dr m x.Src).bind fun v10 => (bif (!v10) then some false else (CY x (B3 m) m v2))) else (CY x (B3 m) m v2))))))))) = some (EW x && (x.Exprs.all okE && (x.Body.all okS && x.Else.all okS))) := by
       intro v2 hv q1 q2 q3 q4 q5 q6
       have i1 := Af6 v2 110 hv (n := m) (by omega)
       have i2 := Af6 v2 115 hv (n := m) (by omega)
       have i3 := Af6 v2 99 hv (n := m) (by omega)
       have i4 := Af6 v2 78 hv (n := m) (by omega)
       have i5 := Af6 v2 98 hv (n := m) (by omega)
       have i6 := Af6 v2 101 hv (n := m) (by omega)
       rw [q1] at i1; rw [q2] at i2; rw [q3] at i3; rw [q4] at i4; rw [q5] at i5; rw [q6] at i6
       have gj1 := AR6 i3 i4 i5 i6 gj2'
       simp only [i1, i2, g1, g1', gj1, Option.bind_some]
       have hN : Cf x.Name = true → decide (x.Name = (⟨#[]⟩ : ByteArray)) = false := fun h => decide_eq_false fun e => by rw [e, Af2] at h; cases h
       have hS : Cf x.Src = true → decide (x.Src = (⟨#[]⟩ : ByteArray)) = false := fun h => decide_eq_false fun e => by rw [e, Af2] at h; cases h
       have ecols : (((coO x.Op == decide (0 < x.Cols.length)) && decide (x.Cols.length ≤ 8)) && (x.Cols.all Cf && decide x.Cols.Nodup)) = Kc (coO x.Op) x.Cols := by
         unfold Kc
         cases coO x.Op
         · by_cases h : x.Cols.length = 0
           · have : x.Cols = [] := List.eq_nil_of_length_eq_zero h
             simp [this]
           · have : 0 < x.Cols.length := by omega
             simp [h, this]
         · by_cases h : 0 < x.Cols.length
           · have : 1 ≤ x.Cols.length := h
             simp [h, this]
           · have : ¬ 1 ≤ x.Cols.length := h
             simp [h, this]
       have enum : ((nuO x.Op || decide (x.N = 0)) && (decide (0 ≤ x.N) && decide (x.N ≤ 1000))) = Rz (nuO x.Op) x.N := by
         unfold Rz
         cases nuO x.Op
         · by_cases h : x.N = 0
           · simp [h]
           · simp [h]
         · simp
       have hshape : EW x = (Yd (nmO x.Op) x.Name && (Yd (srO x.Op) x.Src && (Kc (coO x.Op) x.Cols && (Rz (nuO x.Op) x.N && (RC x.Op x && Me (boO x.Op) (otO x.Op) x))))) := by simp [EW, hop]
       rw [hshape, ← ecols, ← enum]
       unfold Yd
       generalize Cf x.Name = a1 at *
       generalize Cf x.Src = a2 at *
       generalize decide (x.Name = (⟨#[]⟩ : ByteArray)) = a3 at *
       generalize decide (x.Src = (⟨#[]⟩ : ByteArray)) = a4 at *
       generalize ((coO x.Op == decide (0 < x.Cols.length)) && decide (x.Cols.length ≤ 8)) = a5
       generalize ((nuO x.Op || decide (x.N = 0)) && (decide (0 ≤ x.N) && decide (x.N ≤ 1000))) = a6
       generalize Me (boO x.Op) (otO x.Op) x = a7
       generalize (x.Cols.all Cf && decide x.Cols.Nodup) = a8
       generalize RC x.Op x = a9
       generalize (x.Exprs.all okE && (x.Body.all okS && x.Else.all okS)) = a10
       have fold : (a5 && (a6 && (a7 && (a8 && (a9 && a10))))) = ((a5 && a8) && (a6 && (a9 && a7)) && a10) := by
         cases a5 <;> cases a6 <;> cases a7 <;> cases a8 <;> cases a9 <;> cases a10 <;> rfl
       rw [fold]
       generalize ((a5 && a8) && (a6 && (a9 && a7))) = b1
       cases nmO x.Op <;> cases srO x.Op <;> cases a1 <;> cases a2 <;> cases a3 <;> cases a4 <;> simp at hN hS ⊢
     have cases10 : x.Op = 1 ∨ x.Op = 2 ∨ x.Op = 3 ∨ x.Op = 4 ∨ x.Op = 5 ∨ x.Op = 6 ∨ x.Op = 7 ∨ x.Op = 8 ∨ x.Op = 9 ∨ x.Op = 10 := by omega
     rcases cases10 with o | o | o | o | o | o | o | o | o | o
     all_goals (rw [o] at fin ⊢)
     · exact fin ⟨#[110]⟩ (by decide) (by decide) (by decide) (by decide) (by decide) (by decide) (by decide)
     · exact fin ⟨#[110]⟩ (by decide) (by decide) (by decide) (by decide) (by decide) (by decide) (by decide)
     · exact fin ⟨#[115]⟩ (by decide) (by decide) (by decide) (by decide) (by decide) (by decide) (by decide)
     · exact fin ⟨#[110, 115, 99]⟩ (by decide) (by decide) (by decide) (by decide) (by decide) (by decide) (by decide)
     · exact fin ⟨#[110, 115]⟩ (by decide) (by decide) (by decide) (by decide) (by decide) (by decide) (by decide)
     · exact fin ⟨#[110, 115, 78, 98]⟩ (by decide) (by decide) (by decide) (by decide) (by decide) (by decide) (by decide)
     · exact fin ⟨#[98, 101]⟩ (by decide) (by decide) (by decide) (by decide) (by decide) (by decide) (by decide)
     · exact fin ⟨#[115]⟩ (by decide) (by decide) (by decide) (by decide) (by decide) (by decide) (by decide)
     · exact fin ⟨#[]⟩ (by decide) (by decide) (by decide) (by decide) (by decide) (by decide) (by decide)
     · exact fin ⟨#[]⟩ (by decide) (by decide) (by decide) (by decide) (by decide) (by decide) (by decide)
   · have : EW x = false := by simp [EW, hop]
     rw [this, Bool.false_and]
     by_cases o1 : x.Op < 1
     · simp [o1, EX]
     · have o2 : 10 < x.Op := by omega
       simp [o1, o2, EX]
theorem Aj5 {l : List TS} (hl : l.length ≤ 100) (h : ∀ x, x ∈ l → LimS x) : Ev (fun n => B3 n l) (l.all okS) := by
 obtain ⟨N, g⟩ := Ev.all (l := l) (f := fun n a => Dp n a) (r := okS) (fun a ha => Ao2 (h a ha))
 exact ⟨N + 103, OT hl g⟩
end Go.Ax
set_option linter.unusedVariables false
set_option linter.unusedSimpArgs false
namespace Go.Ax
def LN (c : T_api_Column) : Bool := decide (1 ≤ c.Kind) && decide (c.Kind ≤ 3)
def Zb (p : TP) (names : List ByteArray) : Bool :=
 bif decide (p.From = (⟨#[]⟩ : ByteArray)) then decide (p.At = (⟨#[]⟩ : ByteArray)) || names.any (fun x => decide (p.At = x)) else Cf p.From && (decide (names.length = 0) && decide (p.At = (⟨#[]⟩ : ByteArray)))
def AI5 (p : TP) (names : List ByteArray) : Bool :=
 Cf p.Name && (decide (names.length ≤ 8) && (names.all Cf && (decide names.Nodup && ((decide (1 ≤ p.Fuel) && decide (p.Fuel ≤ 2000)) && Zb p names))))
def Sn (p : TP) : Bool := p.Params.all LN && AI5 p (p.Params.map (·.Name))
theorem AJ4 (p : TP) (hp : p.Params.length ≤ 12) : Ev (fun n => Oj n p) (Sn p) := by
 obtain ⟨N1, h1⟩ := KW [p.Name] (by simp)
 obtain ⟨N2, h2⟩ := KW [p.From] (by simp)
 obtain ⟨N3, h3⟩ := KW (p.Params.map (·.Name)) (by simp [MA]; omega)
 refine ⟨N1 + N2 + N3 + 20, fun n hn => ?_⟩
 have h1 := h1 n (by omega)
 have h2 := h2 n (by omega)
 have h3 := h3 n (by omega)
 simp only [List.all_cons, List.all_nil, Bool.and_true] at h1 h2 h3
 show Oj n p = _
 unfold Oj
 have := BW (l := p.Params) (F := fun m s v => E6 p n m s v) (g := fun s _ c => if LN c = true then (match Gq 16 s [c.Name] with | some s' => .inr s' | none => .inl none) else .inl (some false))
   (fin := fun s => (Gi n ([p.Name])).bind fun v6 => (bif (!v6) then (GH p n s true) else (GH p n s (decide ((8 : Int) < (s.length : Int))))))
   (fun m i c s hc => by
     have hlt := BN hc
     show E6 p n (m + 1) s (i : Int) = _
     rw [E6, KY, Bn, hc]
     have h1 : (i : Int) < (p.Params.length : Int) := by omega
     have hk : C7 c.Kind 1 3 = LN c := by unfold C7 LN; cases decide ((1 : Int) ≤ c.Kind) <;> rfl
     simp only [h1, decide_true, cond_true, Option.bind_some, hk]
     cases LN c
     · rfl
     · simp only [Bool.not_true, cond_false, if_true]
       cases Gq 16 s [c.Name] with
       | none => rfl
       | some s' => simp only [Option.bind_some]; rw [Bj (by omega)])
   (fun m s => by
     show E6 p n (m + 1) s _ = _
     rw [E6, KY]; simp) (m := n) (by omega) []
 rw [this]
 have key : ∀ (r : List T_api_Column) (fin : List ByteArray → Option Bool) (s : List ByteArray) (i : Nat), s.length + r.length ≤ 12 → runL (fun s _ c => if LN c = true then (match Gq 16 s [c.Name] with | some s' => .inr s' | none => .inl none) else .inl (some false)) fin r i s = if r.all LN = true then fin (s ++ r.map (·.Name)) else some false := by
   intro r fin
   induction r with
   | nil => intro s i _; simp [runL]
   | cons c r ih =>
     intro s i hs
     rw [runL]
     simp only [List.length_cons] at hs
     have ha : Gq 16 s [c.Name] = some (s ++ [c.Name]) := by unfold Gq; rw [if_pos (by simp; omega)]
     cases hk : LN c
     · simp [hk]
     · simp only [if_true, ha, List.all_cons, hk, Bool.true_and]
       rw [ih _ _ (by simp; omega)]
       simp
 rw [key _ _ _ _ (by simpa using hp)]
 unfold Sn
 cases p.Params.all LN
 · rfl
 simp only [if_true, List.nil_append, Bool.true_and]
 have hlen : (p.Params.map (·.Name)).length ≤ 12 := by simpa using hp
 generalize p.Params.map (·.Name) = names at *
 have hu : M4 names = some (decide names.Nodup) := by unfold M4; rw [if_pos (by omega)]
 have hc := WZ p.At (l := names) (n := n) (by omega) (by unfold MA; omega)
 have hw : C7 p.Fuel 1 2000 = (decide (1 ≤ p.Fuel) && decide (p.Fuel ≤ 2000)) := by
   unfold C7; cases decide (1 ≤ p.Fuel) <;> rfl
 have d1 : decide ((names.length : Int) = 0) = decide (names.length = 0) := by rw [decide_eq_decide]; omega
 have d2 : decide ((8 : Int) < (names.length : Int)) = !decide (names.length ≤ 8) := by rw [Bool.eq_iff_iff, decide_eq_true_iff, Bool.not_eq_true', decide_eq_false_iff_not]; omega
 have J0 : ∀ t, IC p n names t = some (!t && Zb p names) := fun t => by
   simp only [IC, ID, h2, hc, d1, Option.bind_some, Zb]
   generalize (names.any fun x => decide (p.At = x)) = a1
   cases t <;> cases decide (p.From = (⟨#[]⟩ : ByteArray)) <;> cases Cf p.From <;> cases decide (names.length = 0) <;> cases decide (p.At = (⟨#[]⟩ : ByteArray)) <;> simp
 have J4 : ∀ t, IF p n names t = some (!t && ((decide (1 ≤ p.Fuel) && decide (p.Fuel ≤ 2000)) && Zb p names)) := fun t => by
   rw [IF, J0, J0, hw]; cases t <;> simp
 have J3 : ∀ t, IE p n names t = some (!t && (decide names.Nodup && ((decide (1 ≤ p.Fuel) && decide (p.Fuel ≤ 2000)) && Zb p names))) := fun t => by
   rw [IE, J4, hu]; simp only [Option.bind_some, J4]; cases t <;> simp
 have J2 : ∀ t, GH p n names t = some (!t && (names.all Cf && (decide names.Nodup && ((decide (1 ≤ p.Fuel) && decide (p.Fuel ≤ 2000)) && Zb p names)))) := fun t => by
   rw [GH, J3, h3]; simp only [Option.bind_some, J3]; cases t <;> simp
 rw [h1]
 simp only [Option.bind_some, J2, d2, AI5]
 cases Cf p.Name <;> simp
theorem Ap5 (p : TP) (hp : p.Params.length ≤ 12) : Ev (fun n => Jw n p) (Sn p) := by
 obtain ⟨N1, h1⟩ := GX p.Name
 obtain ⟨N2, h2⟩ := GX p.From
 obtain ⟨N3, h3⟩ := Ev.all (l := p.Params) (f := fun n c => Dr n c.Name) (r := fun c => Cf c.Name) (fun c _ => GX c.Name)
 refine ⟨N1 + N2 + N3 + 20, fun n hn => ?_⟩
 have h1 := h1 n (by omega)
 have h2 := h2 n (by omega)
 have h3 := h3 n (by omega)
 simp only at h1 h2
 show Jw n p = _
 unfold Jw
 have inner : ∀ (i : Nat) (c : T_api_Column) (rec : Bool → Int → Option Bool) (v : Bool), p.Params[i]? = some c → Co p (i : Int) rec v n 0 = if ((p.Params.take i).any fun y => decide (y.Name = c.Name)) = true then some false else rec v ((i + 1 : Nat) : Int) := by
   intro i c rec v hc
   have hi := BN hc
   have hlen : (p.Params.take i).length = i := by rw [List.length_take]; omega
   have := BW (l := p.Params.take i) (F := fun m (_ : Unit) w => Co p (i : Int) rec v m w) (g := fun _ _ y => if decide (y.Name = c.Name) then .inl (some false) else .inr ()) (fin := fun _ => rec v ((i + 1 : Nat) : Int))
     (fun m k y u hy => by
       have hlt := BN hy
       have hy' : p.Params[k]? = some y := by rw [List.getElem?_take] at hy; split at hy <;> first | exact hy | cases hy
       show Co p (i : Int) rec v (m + 1) (k : Int) = _
       rw [Co, GT, Bn, Bn, hy', hc]
       have h1 : (k : Int) < (i : Int) := by omega
       simp only [h1, decide_true, cond_true, Option.bind_some]
       cases decide (y.Name = c.Name)
       · simp only [cond_false, Bool.false_eq_true, if_false]; rw [Bj (by omega)]
       · rfl)
     (fun m u => by
       show Co p (i : Int) rec v (m + 1) _ = _
       rw [Co, GT, hlen]
       simp only [Int.lt_irrefl, decide_false, cond_false]
       rw [Bj (by omega)]) (m := n) (by omega) ()
   rw [this, QX]
 have := BW (l := p.Params) (F := fun m s v => Cz p n m s v) (g := fun s i c => if (Cf c.Name && (LN c && !((p.Params.take i).any fun y => decide (y.Name = c.Name)))) = true then .inr (s || decide (p.At = c.Name)) else .inl (some false))
   (fin := fun s => Gv p n s)
   (fun m i c s hc => by
     have hlt := BN hc
     show Cz p n (m + 1) s (i : Int) = _
     rw [Cz, GY, Bn, hc]
     have h1 : (i : Int) < (p.Params.length : Int) := by omega
     have e1 : decide (c.Kind < 1) = !decide (1 ≤ c.Kind) := by rw [Bool.eq_iff_iff, decide_eq_true_iff, Bool.not_eq_true', decide_eq_false_iff_not]; omega
     have e2 : decide ((3 : Int) < c.Kind) = !decide (c.Kind ≤ 3) := by rw [Bool.eq_iff_iff, decide_eq_true_iff, Bool.not_eq_true', decide_eq_false_iff_not]; omega
     simp only [h1, decide_true, cond_true, Option.bind_some, h3 c (List.mem_of_getElem? hc), GC, Gx, GG, Bn, hc, e1, e2, inner i c _ _ hc, LN]
     by_cases hk1 : 1 ≤ c.Kind <;> by_cases hk2 : c.Kind ≤ 3 <;> cases Cf c.Name <;> cases s <;> cases ((p.Params.take i).any fun y => decide (y.Name = c.Name)) <;> simp [hk1, hk2])
   (fun m s => by
     show Cz p n (m + 1) s _ = _
     rw [Cz, GY]; simp) (m := n) (by omega) (decide (p.At = (⟨#[]⟩ : ByteArray)))
 rw [this]
 have key : ∀ (r pre : List T_api_Column) (fin : Bool → Option Bool) (s : Bool) (i : Nat), p.Params = pre ++ r → pre.length = i → runL (fun s i c => if (Cf c.Name && (LN c && !((p.Params.take i).any fun y => decide (y.Name = c.Name)))) = true then .inr (s || decide (p.At = c.Name)) else .inl (some false)) fin r i s =
     if (r.all LN && ((r.map (·.Name)).all Cf && Gp (pre.map (·.Name)) (r.map (·.Name)))) = true then fin (s || (r.map (·.Name)).any fun x => decide (p.At = x)) else some false := by
   intro r
   induction r with
   | nil => intro pre fin s i _ _; simp [runL, Gp]
   | cons c r ih =>
     intro pre fin s i he hi
     have htake : p.Params.take i = pre := by rw [he, ← hi, List.take_left]
     have hany : (pre.any fun y => decide (y.Name = c.Name)) = ((pre.map (·.Name)).any fun y => decide (y = c.Name)) := by rw [List.any_map]; rfl
     rw [runL, htake, List.map_cons, List.all_cons, List.all_cons, Gp, hany]
     cases Cf c.Name
     · simp
     · cases LN c
       · simp
       · cases ((pre.map (·.Name)).any fun y => decide (y = c.Name))
         · simp only [Bool.not_false, Bool.and_self, if_true, Bool.true_and]
           rw [ih (pre ++ [c]) fin _ _ (by rw [he]; simp) (by simp [hi])]
           simp only [List.map_append, List.map_cons, List.map_nil, List.any_cons, Bool.or_assoc]
         · simp
 rw [key p.Params [] _ _ 0 (by simp) rfl]
 simp only [List.map_nil, RZ, Sn]
 have hlen : (p.Params.map (·.Name)).length = p.Params.length := by simp
 have d1 : decide ((p.Params.length : Int) ≤ 8) = decide ((p.Params.map (·.Name)).length ≤ 8) := by rw [decide_eq_decide, hlen]; omega
 have d2 : decide ((0 : Int) < (p.Params.length : Int)) = !decide ((p.Params.map (·.Name)).length = 0) := by rw [Bool.eq_iff_iff, decide_eq_true_iff, Bool.not_eq_true', decide_eq_false_iff_not, hlen]; omega
 have d3 : (p.Params.map (·.Name)).length = 0 → ((p.Params.map (·.Name)).any fun x => decide (p.At = x)) = false := fun h => by rw [List.eq_nil_of_length_eq_zero h]; rfl
 simp only [Gv, GA, Gt, GB, h1, h2, d1, d2, Option.bind_some, AI5, Zb]
 generalize p.Params.map (·.Name) = names at *
 generalize p.Params.all LN = a1
 generalize names.all Cf = a2
 generalize decide names.Nodup = a3
 have d3' : decide (names.length = 0) = true → (names.any fun x => decide (p.At = x)) = false := fun h => d3 (of_decide_eq_true h)
 generalize (names.any fun x => decide (p.At = x)) = a4 at *
 generalize decide (names.length = 0) = a5 at *
 generalize decide (names.length ≤ 8) = a6
 generalize decide (1 ≤ p.Fuel) = a7
 generalize decide (p.Fuel ≤ 2000) = a8
 generalize Cf p.Name = a9
 generalize Cf p.From = a10
 generalize decide (p.From = (⟨#[]⟩ : ByteArray)) = a11
 generalize decide (p.At = (⟨#[]⟩ : ByteArray)) = a12
 clear this key inner h1 h2 h3 hn d1 d2 d3 hlen hp
 cases a1 <;> cases a2 <;> cases a3 <;> simp
 cases a11 <;> cases a10 <;> cases a9 <;> cases a6 <;> cases a5 <;> cases a4 <;> simp at d3' ⊢ <;> cases a12 <;> cases a7 <;> simp
end Go.Ax
set_option linter.unusedVariables false
set_option linter.unusedSimpArgs false
namespace Go.Ax
def sumN {α : Type} (N : α → Nat) : List α → Nat
 | [] => 0
 | x :: r => N x + sumN N r
def maxD {α : Type} (D : α → Nat) : List α → Nat
 | [] => 0
 | x :: r => max (D x) (maxD D r)
theorem Qp {α : Type} (N : α → Nat) : ∀ a b : List α, sumN N (a ++ b) = sumN N a + sumN N b
 | [], b => by simp [sumN]
 | x :: a, b => by simp [sumN, Qp N a b]; omega
theorem Ao0 {α : Type} (D : α → Nat) : ∀ a b : List α, maxD D (a ++ b) = max (maxD D a) (maxD D b)
 | [], b => by simp [maxD]
 | x :: a, b => by simp [maxD, Ao0 D a b] <;> omega
theorem M5 {α : Type} (D : α → Nat) {x : α} : ∀ {l : List α}, x ∈ l → D x ≤ maxD D l
 | y :: l, h => by
   rw [maxD]
   rcases List.mem_cons.1 h with h | h
   · subst h; omega
   · have := M5 D h; omega
def Sz (s : T_Ssize) (N D : Nat) : Prop := (N < 1000 → s.nodes = N ∧ s.depth = D) ∧ (1000 ≤ N → s.nodes = 1000 ∧ 0 ≤ s.depth ∧ s.depth ≤ 1000)
theorem Sz.zero : Sz ⟨(0 : Int), (0 : Int)⟩ 0 0 := ⟨fun _ => ⟨rfl, rfl⟩, fun h => by omega⟩
theorem Sz.big {N D : Nat} (h : 1000 ≤ N) : Sz ⟨(1000 : Int), (1000 : Int)⟩ N D := ⟨fun h' => by omega, fun _ => ⟨rfl, by decide, by decide⟩⟩
theorem Qk {s : T_Ssize} {N D : Nat} (hd : D ≤ 900) (h : Sz s N D) : B4 s = decide (1000 ≤ N) := by
 unfold B4
 by_cases hN : N < 1000
 · obtain ⟨h1, h2⟩ := h.1 hN
   have e1 : ¬ (1000 : Int) ≤ s.nodes := by omega
   have e2 : ¬ (1000 : Int) ≤ s.depth := by omega
   have e3 : ¬ 1000 ≤ N := by omega
   simp [e1, e2, e3]
 · obtain ⟨h1, h2⟩ := h.2 (by omega)
   have e3 : 1000 ≤ N := by omega
   simp [h1, e3]
theorem Sz.bd {s : T_Ssize} {N D : Nat} (hd : D ≤ 900) (h : Sz s N D) : 0 ≤ s.nodes ∧ s.nodes ≤ 1000 ∧ 0 ≤ s.depth ∧ s.depth ≤ 1000 := by
 by_cases hN : N < 1000
 · obtain ⟨h1, h2⟩ := h.1 hN; omega
 · obtain ⟨h1, h2⟩ := h.2 (by omega); omega
theorem Sz.add {s t : T_Ssize} {N D N' D' : Nat} (h : Sz s N D) (k : Sz t N' D') (hd : D ≤ 900) (hd' : D' ≤ 900) : Sz (A5 s t) (N + N') (max D D') := by
 have b1 := h.bd hd
 have b2 := k.bd hd'
 have hw : IntKind.wrap .i64 (s.nodes + t.nodes) = s.nodes + t.nodes := DZ (by omega) (by omega)
 refine ⟨fun hlt => ?_, fun hge => ?_⟩
 · obtain ⟨h1, h2⟩ := h.1 (by omega)
   obtain ⟨k1, k2⟩ := k.1 (by omega)
   simp only [A5, hw]
   omega
 · simp only [A5, hw]
   have hn : 1000 ≤ s.nodes + t.nodes := by
     by_cases hN : N < 1000
     · by_cases hN' : N' < 1000
       · have := (h.1 hN).1; have := (k.1 hN').1; omega
       · have := (k.2 (by omega)).1; omega
     · have := (h.2 (by omega)).1; omega
   omega
theorem Sz.over {s : T_Ssize} {N D : Nat} (h : Sz s N D) (hd : D ≤ 899) : Sz (IT s) (N + 1) (D + 1) := by
 have b1 := h.bd (by omega)
 have hw : IntKind.wrap .i64 (s.nodes + 1) = s.nodes + 1 := DZ (by omega) (by omega)
 have hw2 : IntKind.wrap .i64 (s.depth + 1) = s.depth + 1 := DZ (by omega) (by omega)
 refine ⟨fun hlt => ?_, fun hge => ?_⟩
 · obtain ⟨h1, h2⟩ := h.1 (by omega)
   simp only [IT, hw, hw2]
   omega
 · simp only [IT, hw, hw2]
   have : 999 ≤ s.nodes := by
     by_cases hN : N < 1000
     · have := (h.1 hN).1; omega
     · have := (h.2 (by omega)).1; omega
   omega
theorem PK {n : Nat} {l : List TE} {a : Nat} (ha : a < 1000) {fn2 : TE → Int → Option T_Ssize} {N D : TE → Nat} (hf : ∀ x, x ∈ l → D x ≤ 900 ∧ ∃ s, fn2 x (a : Int) = some s ∧ Sz s (N x) (D x)) (hl : l.length ≤ 100) (hn : 100 < n) :
   ∃ s, FF n l (a : Int) fn2 = some s ∧ Sz s (sumN N l) (maxD D l) := by
 unfold FF
 have := BW (l := l) (F := fun m (s : Int × Int) v => Cg l (a : Int) fn2 m s.1 s.2 v)
   (g := fun s _ x => if B4 ⟨s.1, s.2⟩ = true then .inl (some ⟨1000, 1000⟩) else (match fn2 x (a : Int) with | some t => .inr ((A5 ⟨s.1, s.2⟩ t).nodes, (A5 ⟨s.1, s.2⟩ t).depth) | none => .inl none)) (fin := fun s => some ⟨s.1, s.2⟩)
   (fun m i x s hx => by
     have hlt := BN hx
     show Cg l (a : Int) fn2 (m + 1) s.1 s.2 (i : Int) = _
     rw [Cg, Gh, Bn, hx]
     have h1 : (i : Int) < (l.length : Int) := by omega
     have h2 : ¬ (1000 : Int) ≤ (a : Int) := by omega
     simp only [h1, h2, decide_true, decide_false, cond_true, Option.bind_some, Fv]
     cases B4 ⟨s.1, s.2⟩
     · simp only [cond_false, Bool.false_eq_true, if_false]
       cases fn2 x (a : Int) with
       | none => rfl
       | some t => simp only [Option.bind_some]; rw [Bj (by omega)]
     · rfl)
   (fun m s => by
     show Cg l (a : Int) fn2 (m + 1) s.1 s.2 _ = _
     rw [Cg, Gh]; simp) (m := n) (by omega) ((0 : Int), (0 : Int))
 rw [this]
 have key : ∀ (r : List TE) (s : Int × Int) (i N0 D0 : Nat), (∀ x, x ∈ r → D x ≤ 900 ∧ ∃ s, fn2 x (a : Int) = some s ∧ Sz s (N x) (D x)) → D0 ≤ 900 → Sz ⟨s.1, s.2⟩ N0 D0 →
     ∃ t, runL (fun s _ x => if B4 ⟨s.1, s.2⟩ = true then .inl (some ⟨1000, 1000⟩) else (match fn2 x (a : Int) with | some t => .inr ((A5 ⟨s.1, s.2⟩ t).nodes, (A5 ⟨s.1, s.2⟩ t).depth) | none => .inl none)) (fun s => some ⟨s.1, s.2⟩) r i s = some t ∧ Sz t (N0 + sumN N r) (max D0 (maxD D r)) := by
   intro r
   induction r with
   | nil => intro s i N0 D0 _ _ hs; exact ⟨_, rfl, by simpa [sumN, maxD] using hs⟩
   | cons x r ih =>
     intro s i N0 D0 hr hd hs
     rw [runL]
     obtain ⟨hdx, t, ht, hz⟩ := hr x (by simp)
     by_cases hfull : 1000 ≤ N0
     · have : B4 ⟨s.1, s.2⟩ = true := by rw [Qk hd hs]; simp [hfull]
       simp only [this, if_true]
       exact ⟨_, rfl, Sz.big (by omega)⟩
     · have : B4 ⟨s.1, s.2⟩ = false := by rw [Qk hd hs]; simp [hfull]
       simp only [this, Bool.false_eq_true, if_false, ht]
       obtain ⟨u, hu, hz2⟩ := ih ((A5 ⟨s.1, s.2⟩ t).nodes, (A5 ⟨s.1, s.2⟩ t).depth) (i + 1) (N0 + N x) (max D0 (D x)) (fun y hy => hr y (by simp [hy])) (by omega) (hs.add hz hd hdx)
       refine ⟨u, hu, ?_⟩
       simpa [sumN, maxD, Nat.add_assoc, Nat.max_assoc] using hz2
 obtain ⟨t, ht, hz⟩ := key l ((0 : Int), (0 : Int)) 0 0 0 hf (by omega) Sz.zero
 exact ⟨t, ht, by simpa using hz⟩
theorem KD {n : Nat} {l : List TS} {a : Nat} (ha : a < 1000) {fn2 : TS → Int → Option T_Ssize} {N D : TS → Nat} (hf : ∀ x, x ∈ l → D x ≤ 900 ∧ ∃ s, fn2 x (a : Int) = some s ∧ Sz s (N x) (D x)) (hl : l.length ≤ 100) (hn : 100 < n) :
   ∃ s, Dj n l (a : Int) fn2 = some s ∧ Sz s (sumN N l) (maxD D l) := by
 unfold Dj
 have := BW (l := l) (F := fun m (s : Int × Int) v => Ch l (a : Int) fn2 m s.1 s.2 v)
   (g := fun s _ x => if B4 ⟨s.1, s.2⟩ = true then .inl (some ⟨1000, 1000⟩) else (match fn2 x (a : Int) with | some t => .inr ((A5 ⟨s.1, s.2⟩ t).nodes, (A5 ⟨s.1, s.2⟩ t).depth) | none => .inl none)) (fin := fun s => some ⟨s.1, s.2⟩)
   (fun m i x s hx => by
     have hlt := BN hx
     show Ch l (a : Int) fn2 (m + 1) s.1 s.2 (i : Int) = _
     rw [Ch, Gg, Bn, hx]
     have h1 : (i : Int) < (l.length : Int) := by omega
     have h2 : ¬ (1000 : Int) ≤ (a : Int) := by omega
     simp only [h1, h2, decide_true, decide_false, cond_true, Option.bind_some, Fr]
     cases B4 ⟨s.1, s.2⟩
     · simp only [cond_false, Bool.false_eq_true, if_false]
       cases fn2 x (a : Int) with
       | none => rfl
       | some t => simp only [Option.bind_some]; rw [Bj (by omega)]
     · rfl)
   (fun m s => by
     show Ch l (a : Int) fn2 (m + 1) s.1 s.2 _ = _
     rw [Ch, Gg]; simp) (m := n) (by omega) ((0 : Int), (0 : Int))
 rw [this]
 have key : ∀ (r : List TS) (s : Int × Int) (i N0 D0 : Nat), (∀ x, x ∈ r → D x ≤ 900 ∧ ∃ s, fn2 x (a : Int) = some s ∧ Sz s (N x) (D x)) → D0 ≤ 900 → Sz ⟨s.1, s.2⟩ N0 D0 →
     ∃ t, runL (fun s _ x => if B4 ⟨s.1, s.2⟩ = true then .inl (some ⟨1000, 1000⟩) else (match fn2 x (a : Int) with | some t => .inr ((A5 ⟨s.1, s.2⟩ t).nodes, (A5 ⟨s.1, s.2⟩ t).depth) | none => .inl none)) (fun s => some ⟨s.1, s.2⟩) r i s = some t ∧ Sz t (N0 + sumN N r) (max D0 (maxD D r)) := by
   intro r
   induction r with
   | nil => intro s i N0 D0 _ _ hs; exact ⟨_, rfl, by simpa [sumN, maxD] using hs⟩
   | cons x r ih =>
     intro s i N0 D0 hr hd hs
     rw [runL]
     obtain ⟨hdx, t, ht, hz⟩ := hr x (by simp)
     by_cases hfull : 1000 ≤ N0
     · have : B4 ⟨s.1, s.2⟩ = true := by rw [Qk hd hs]; simp [hfull]
       simp only [this, if_true]
       exact ⟨_, rfl, Sz.big (by omega)⟩
     · have : B4 ⟨s.1, s.2⟩ = false := by rw [Qk hd hs]; simp [hfull]
       simp only [this, Bool.false_eq_true, if_false, ht]
       obtain ⟨u, hu, hz2⟩ := ih ((A5 ⟨s.1, s.2⟩ t).nodes, (A5 ⟨s.1, s.2⟩ t).depth) (i + 1) (N0 + N x) (max D0 (D x)) (fun y hy => hr y (by simp [hy])) (by omega) (hs.add hz hd hdx)
       refine ⟨u, hu, ?_⟩
       simpa [sumN, maxD, Nat.add_assoc, Nat.max_assoc] using hz2
 obtain ⟨t, ht, hz⟩ := key l ((0 : Int), (0 : Int)) 0 0 0 hf (by omega) Sz.zero
 exact ⟨t, ht, by simpa using hz⟩
mutual
def nE : TE → Nat
 | ⟨_, _, _, _, _, args⟩ => nEs args + 1
def nEs : List TE → Nat
 | [] => 0
 | a :: l => nE a + nEs l
end
mutual
def dE : TE → Nat
 | ⟨_, _, _, _, _, args⟩ => dEs args + 1
def dEs : List TE → Nat
 | [] => 0
 | a :: l => max (dE a) (dEs l)
end
theorem AH7 : ∀ l, nEs l = sumN nE l
 | [] => rfl
 | a :: l => by rw [nEs, AH7 l]; rfl
theorem AH2 : ∀ l, dEs l = maxD dE l
 | [] => rfl
 | a :: l => by rw [dEs, AH2 l]; rfl
theorem Am9 (e : TE) : nE e = sumN nE e.Args + 1 := by cases e; rw [nE, AH7]
theorem Ap8 (e : TE) : dE e = maxD dE e.Args + 1 := by cases e; rw [dE, AH2]
mutual
def nS : TS → Nat
 | ⟨_, _, _, _, _, exprs, body, els⟩ => sumN nE exprs + (nSs body + nSs els) + 1
def nSs : List TS → Nat
 | [] => 0
 | a :: l => nS a + nSs l
end
mutual
def dS : TS → Nat
 | ⟨_, _, _, _, _, exprs, body, els⟩ => max (maxD dE exprs) (max (dSs body) (dSs els)) + 1
def dSs : List TS → Nat
 | [] => 0
 | a :: l => max (dS a) (dSs l)
end
theorem Av8 : ∀ l, nSs l = sumN nS l
 | [] => rfl
 | a :: l => by rw [nSs, Av8 l]; rfl
theorem Aw8 : ∀ l, dSs l = maxD dS l
 | [] => rfl
 | a :: l => by rw [dSs, Aw8 l]; rfl
theorem Ac0 (x : TS) : nS x = sumN nE x.Exprs + (sumN nS x.Body + sumN nS x.Else) + 1 := by cases x; rw [nS, Av8, Av8]
theorem As0 (x : TS) : dS x = max (maxD dE x.Exprs) (max (maxD dS x.Body) (maxD dS x.Else)) + 1 := by cases x; rw [dS, Aw8, Aw8]
theorem FM {e : TE} (h : LimE e) : ∃ M, ∀ n, M ≤ n → ∀ a : Nat, a + dE e ≤ 900 → ∃ s, CZ n e (a : Int) = some s ∧ Sz s (nE e) (dE e) := by
 induction h with
 | mk e hl hk ih =>
   have hall : ∃ M, ∀ x, x ∈ e.Args → ∀ n, M ≤ n → ∀ a : Nat, a + dE x ≤ 900 → ∃ s, CZ n x (a : Int) = some s ∧ Sz s (nE x) (dE x) := bound_list (P := fun x n => ∀ a : Nat, a + dE x ≤ 900 → ∃ s, CZ n x (a : Int) = some s ∧ Sz s (nE x) (dE x)) ih
   obtain ⟨M, hM⟩ := hall
   refine ⟨M + 102, fun n hn a ha => ?_⟩
   obtain ⟨m, rfl⟩ : ∃ m, n = m + 1 := ⟨n - 1, by omega⟩
   rw [Ap8] at ha
   have hw : IntKind.wrap .i64 ((a : Int) + 1) = ((a + 1 : Nat) : Int) := Bj (by omega)
   rw [CZ, JT, hw]
   obtain ⟨s, hs, hz⟩ := PK (n := m) (l := e.Args) (a := a + 1) (by omega) (fn2 := fun a0 a1 => CZ m a0 a1) (N := nE) (D := dE) (fun x hx => by
     have := M5 dE hx
     exact ⟨by omega, hM x hx m (by omega) (a + 1) (by omega)⟩) (by omega) (by omega)
   rw [hs]
   exact ⟨_, rfl, by rw [Am9, Ap8]; exact hz.over (by omega)⟩
where
 bound_list {α : Type} {P : α → Nat → Prop} : ∀ {l : List α}, (∀ x, x ∈ l → ∃ M, ∀ n, M ≤ n → P x n) → ∃ M, ∀ x, x ∈ l → ∀ n, M ≤ n → P x n
   | [], _ => ⟨0, fun x hx => by cases hx⟩
   | a :: l, h => by
     obtain ⟨M1, h1⟩ := h a (by simp)
     obtain ⟨M2, h2⟩ := bound_list (l := l) fun x hx => h x (by simp [hx])
     refine ⟨max M1 M2, fun x hx n hn => ?_⟩
     rcases List.mem_cons.1 hx with e | e
     · subst e; exact h1 n (by omega)
     · exact h2 x e n (by omega)
theorem Ao9 {x : TS} (h : LimS x) : ∃ M, ∀ n, M ≤ n → ∀ a : Nat, a + dS x ≤ 900 → ∃ s, B5 n x (a : Int) = some s ∧ Sz s (nS x) (dS x) := by
 induction h with
 | mk x h0 h1 h2 h3 he hb hc ihb ihc =>
   obtain ⟨M1, g1⟩ := FM.bound_list (P := fun x n => ∀ a : Nat, a + dE x ≤ 900 → ∃ s, CZ n x (a : Int) = some s ∧ Sz s (nE x) (dE x)) (l := x.Exprs) (fun e hm => FM (he e hm))
   obtain ⟨M2, g2⟩ := FM.bound_list (P := fun x n => ∀ a : Nat, a + dS x ≤ 900 → ∃ s, B5 n x (a : Int) = some s ∧ Sz s (nS x) (dS x)) ihb
   obtain ⟨M3, g3⟩ := FM.bound_list (P := fun x n => ∀ a : Nat, a + dS x ≤ 900 → ∃ s, B5 n x (a : Int) = some s ∧ Sz s (nS x) (dS x)) ihc
   refine ⟨M1 + M2 + M3 + 102, fun n hn a ha => ?_⟩
   obtain ⟨m, rfl⟩ : ∃ m, n = m + 1 := ⟨n - 1, by omega⟩
   rw [As0] at ha
   have hw : IntKind.wrap .i64 ((a : Int) + 1) = ((a + 1 : Nat) : Int) := Bj (by omega)
   rw [B5, JR, hw]
   obtain ⟨s1, hs1, hz1⟩ := PK (n := m) (l := x.Exprs) (a := a + 1) (by omega) (fn2 := fun a0 a1 => CZ m a0 a1) (N := nE) (D := dE) (fun y hy => by
     have := M5 dE hy
     exact ⟨by omega, g1 y hy m (by omega) (a + 1) (by omega)⟩) (by omega) (by omega)
   obtain ⟨s2, hs2, hz2⟩ := KD (n := m) (l := x.Body) (a := a + 1) (by omega) (fn2 := fun a0 a1 => B5 m a0 a1) (N := nS) (D := dS) (fun y hy => by
     have := M5 dS hy
     exact ⟨by omega, g2 y hy m (by omega) (a + 1) (by omega)⟩) (by omega) (by omega)
   obtain ⟨s3, hs3, hz3⟩ := KD (n := m) (l := x.Else) (a := a + 1) (by omega) (fn2 := fun a0 a1 => B5 m a0 a1) (N := nS) (D := dS) (fun y hy => by
     have := M5 dS hy
     exact ⟨by omega, g3 y hy m (by omega) (a + 1) (by omega)⟩) (by omega) (by omega)
   rw [hs1, Option.bind_some, hs2, Option.bind_some, hs3]
   refine ⟨_, rfl, ?_⟩
   have hz := ((hz1.add hz2 (by omega) (by omega)).add hz3 (by omega) (by omega)).over (by omega)
   rw [Ac0, As0, show max (maxD dE x.Exprs) (max (maxD dS x.Body) (maxD dS x.Else)) = max (max (maxD dE x.Exprs) (maxD dS x.Body)) (maxD dS x.Else) by omega, show sumN nE x.Exprs + (sumN nS x.Body + sumN nS x.Else) = sumN nE x.Exprs + sumN nS x.Body + sumN nS x.Else by omega]
   exact hz
def B2 (N D : Nat) : Int × Int := if 1000 ≤ N ∨ 1000 ≤ D then (1000, 1000) else ((N : Int), (D : Int))
theorem Az8 {l : List TS} (hl : l.length ≤ 100) (h : ∀ x, x ∈ l → LimS x) (hd : maxD dS l ≤ 900) : ∃ M, ∀ n, M ≤ n → ∃ s, Dj n l (0 : Int) (fun (a0 : TS) (a1 : Int) => B5 n a0 a1) = some s ∧ Sz s (sumN nS l) (maxD dS l) := by
 obtain ⟨M, g⟩ := FM.bound_list (P := fun x n => ∀ a : Nat, a + dS x ≤ 900 → ∃ s, B5 n x (a : Int) = some s ∧ Sz s (nS x) (dS x)) (fun x hx => Ao9 (h x hx))
 refine ⟨M + 102, fun n hn => ?_⟩
 exact KD (n := n) (l := l) (a := 0) (by omega) (fn2 := fun a0 a1 => B5 n a0 a1) (N := nS) (D := dS) (fun y hy => by
     have := M5 dS hy
     exact ⟨by omega, g y hy n (by omega) 0 (by omega)⟩) (by omega) (by omega)
theorem AM2 {s : T_Ssize} {N D : Nat} (h : Sz s N D) (hd : D ≤ 900) : HL s = B2 N D := by
 unfold HL B2
 rw [Qk hd h]
 by_cases hN : 1000 ≤ N
 · simp [hN]
 · obtain ⟨h1, h2⟩ := h.1 (by omega)
   have : ¬ 1000 ≤ D := by omega
   simp [hN, this, h1, h2]
theorem AJ2 {s : T_Ssize} {N D : Nat} (h : Sz s N D) (hd : D ≤ 900) : G8 s = decide (N ≤ 300 ∧ D ≤ 12) := by
 unfold G8
 by_cases hN : N < 1000
 · obtain ⟨h1, h2⟩ := h.1 hN
   rw [h1, h2]
   by_cases a : N ≤ 300
   · have : (N : Int) ≤ 300 := by omega
     by_cases b : D ≤ 12
     · have : (D : Int) ≤ 12 := by omega
       simp [*]
     · have : ¬ (D : Int) ≤ 12 := by omega
       simp [*]
   · have : ¬ (N : Int) ≤ 300 := by omega
     simp [*]
 · have := (h.2 (by omega)).1
   have h3 : ¬ N ≤ 300 := by omega
   simp [this, h3]
theorem Ay2 {p : TP} (hl : p.Body.length ≤ 100) (h : ∀ x, x ∈ p.Body → LimS x) (hd : maxD dS p.Body ≤ 900) : Ev (fun n => MU n p) (B2 (sumN nS p.Body) (maxD dS p.Body)) := by
 obtain ⟨M, g⟩ := Az8 hl h hd
 refine ⟨M, fun n hn => ?_⟩
 obtain ⟨s, hs, hz⟩ := g n hn
 show MU n p = _
 rw [MU, hs, Option.bind_some, AM2 hz hd]
def GP (p : TP) : Bool := Sn p && (decide (sumN nS p.Body ≤ 300 ∧ maxD dS p.Body ≤ 12) && p.Body.all okS)
theorem Ar9 {p : TP} (hp : p.Params.length ≤ 12) (hl : p.Body.length ≤ 100) (h : ∀ x, x ∈ p.Body → LimS x) (hd : maxD dS p.Body ≤ 900) : Ev (fun n => Kf n p) (GP p) := by
 obtain ⟨M, g⟩ := Az8 hl h hd
 obtain ⟨N1, h1⟩ := AJ4 p hp
 obtain ⟨N2, h2⟩ := AC2 hl h
 refine ⟨M + N1 + N2, fun n hn => ?_⟩
 obtain ⟨s, hs, hz⟩ := g n (by omega)
 have h1 := h1 n (by omega)
 have h2 := h2 n (by omega)
 simp only at h1 h2
 show Kf n p = _
 rw [Kf, hs, Option.bind_some, h1, Option.bind_some, AJ2 hz hd]
 simp only [J8, h2, Option.bind_some, GP]
 cases Sn p <;> cases decide (sumN nS p.Body ≤ 300 ∧ maxD dS p.Body ≤ 12) <;> rfl
end Go.Ax
