import Derived.Test.YtojkpenjeglipaaGreatTAxVm
set_option linter.unusedVariables false
namespace Go.Ax
open Go.RowKit
structure Out where
 v : PV
 U : List (Nat × Content)
 R : List Nat
def Gn (is : List XI) (outs : List Out) (s0 : XS) : Nat → XS
 | 0 => s0
 | k + 1 => match is[k]?, outs[k]? with
   | some i, some o => (Gn is outs s0 k).put i.dst o.v (CI (Gn is outs s0 k).st o.U)
   | _, _ => Gn is outs s0 k
def BV7 (P : Program) (i : XI) (s : XS) (o : Out) : Prop :=
 (∀ b, b ∈ o.U.map (·.1) → b ∈ o.R) ∧
 ((Ch0 P i.op s o.v o.U o.R ∧ (i.guard = none ∨ ∃ t b, i.guard = some (t, b) ∧ s.r t = .d (.bool b))) ∨
  (o.v = .tup [] ∧ o.U = [] ∧ o.R = [] ∧ ∃ t want, i.guard = some (t, want) ∧ (s.r t = .d (.bool (!want)) ∨ s.r t = .tup [])))
def Bd0 (anc : List (List Nat)) (outs : List Out) (k : Nat) : Prop :=
 ∀ i o p, i < k → outs[i]? = some o → outs[k]? = some p → i ∉ BP anc k → FY (o.U.map (·.1)) p.R ∧ FY (p.U.map (·.1)) o.R
theorem Aw0 {ak ns R : List Nat} : ∀ (acc : List (List Nat × List Nat)) (k : Nat), okPairs ak ns R k acc → ∀ (j : Nat) (q : List Nat × List Nat), acc[j]? = some q → (k + j) ∉ ak → FY q.1 R ∧ FY ns q.2
 | [], k, h, j, q, hj, hn => by simp at hj
 | (n, r) :: rest, k, h, j, q, hj, hn => by
   simp only [okPairs] at h
   cases j with
   | zero =>
     simp at hj
     subst hj
     have : ak.contains k = false := by simpa using hn
     rw [this] at h
     simpa using h.1
   | succ j => exact Aw0 rest (k + 1) h.2 j q (by simpa using hj) (by rw [Nat.add_assoc, Nat.add_comm 1 j]; exact hn)
theorem Am5 {is : List XI} {outs : List Out} {o : Out} {s0 : XS} : ∀ k, k ≤ outs.length → Gn is (outs ++ [o]) s0 k = Gn is outs s0 k
 | 0, _ => rfl
 | k + 1, h => by
   simp only [Gn]
   rw [Am5 k (by omega), List.getElem?_append_left (by omega)]
theorem Al9 {α : Type} {l : List α} {c d : α} {x : Nat} (h : (l ++ [c])[x]? = some d) (hx : x < l.length) : l[x]? = some d := by rwa [List.getElem?_append_left hx] at h
theorem Bs5 {P : Program} {anc : List (List Nat)} {base : Nat} {K : XS → Prop} {s0 : XS} {is : List XI} : ∀ (rest : List XI) (k : Nat) (outs : List Out), outs.length = k → is.drop k = rest → k ≤ is.length →
   (∀ (j : Nat) (i : XI) (o : Out), is[j]? = some i → outs[j]? = some o → BV7 P i (Gn is outs s0 j) o) → (∀ j, j < k → Bd0 anc outs j) →
   IS P anc base k rest (outs.map fun o => (o.U.map (·.1), o.R)) K (Gn is outs s0 k) →
   ∃ outs', outs'.length = is.length ∧ (∀ (j : Nat) (i : XI) (o : Out), is[j]? = some i → outs'[j]? = some o → BV7 P i (Gn is outs' s0 j) o) ∧ (∀ j, j < is.length → Bd0 anc outs' j) ∧ K (Gn is outs' s0 is.length)
 | [], k, outs, hl, hd, hk, hop, hpr, hx => by
   have : k = is.length := by have := List.drop_eq_nil_iff.1 hd; omega
   subst this
   exact ⟨outs, hl, hop, hpr, hx⟩
 | i :: r, k, outs, hl, hd, hk, hop, hpr, hx => by
   have hik : is[k]? = some i := by
     have := List.getElem?_drop (xs := is) (i := k) (j := 0)
     rw [hd] at this
     simpa using this.symm
   have hkl : k < is.length := (List.getElem?_eq_some_iff.1 hik).1
   have hdr : is.drop (k + 1) = r := by
     have : (is.drop k).drop 1 = r := by rw [hd]; rfl
     rwa [List.drop_drop] at this
   -- one step
   have go : ∀ o : Out, BV7 P i (Gn is outs s0 k) o → okPairs (BP anc k) (o.U.map (·.1)) o.R 0 (outs.map fun o => (o.U.map (·.1), o.R)) →
       IS P anc base (k + 1) r ((outs.map fun o => (o.U.map (·.1), o.R)) ++ [(o.U.map (·.1), o.R)]) K ((Gn is outs s0 k).put i.dst o.v (CI (Gn is outs s0 k).st o.U)) →
       ∃ outs', outs'.length = is.length ∧ (∀ (j : Nat) (i : XI) (o : Out), is[j]? = some i → outs'[j]? = some o → BV7 P i (Gn is outs' s0 j) o) ∧ (∀ j, j < is.length → Bd0 anc outs' j) ∧ K (Gn is outs' s0 is.length) := fun o ho hok hx => by
     refine Bs5 (base := base) r (k + 1) (outs ++ [o]) (by simp [hl]) hdr (by omega) (fun j i' o' hi ho' => ?_) (fun j hj => ?_) ?_
     · by_cases hjk : j < k
       · rw [Am5 j (by omega)]
         exact hop j i' o' hi (Al9 ho' (by omega))
       · have hjk' : j = k := by have := (List.getElem?_eq_some_iff.1 ho').1; simp at this; omega
         subst hjk'
         rw [hik] at hi
         cases hi
         rw [List.getElem?_append_right (by omega), hl] at ho'
         simp at ho'
         subst ho'
         rw [Am5 _ (by omega)]
         exact ho
     · by_cases hjk : j < k
       · intro a p q h1 h2 h3 h4
         exact hpr j hjk a p q h1 (Al9 h2 (by omega)) (Al9 h3 (by omega)) h4
       · have hjk' : j = k := by omega
         subst hjk'
         intro a p q h1 h2 h3 h4
         rw [List.getElem?_append_right (by omega), hl] at h3
         simp at h3
         subst h3
         have h2' := Al9 h2 (by omega)
         exact Aw0 _ 0 hok a (p.U.map (·.1), p.R) (by rw [List.getElem?_map, h2']; rfl) (by simpa using h4)
     · have e : Gn is (outs ++ [o]) s0 (k + 1) = (Gn is outs s0 k).put i.dst o.v (CI (Gn is outs s0 k).st o.U) := by
         simp only [Gn]
         rw [Am5 k (by omega), hik, List.getElem?_append_right (by omega), hl]
         simp
       rw [e, List.map_append]
       exact hx
   simp only [IS] at hx
   split at hx
   · rename_i hg
     obtain ⟨v, U, R, h1, h2, h3⟩ := Bq3 hx
     exact go ⟨v, U, R⟩ ⟨h2, .inl ⟨h3, .inl hg⟩⟩ h1.1 h1.2
   · rename_i t want hg
     split at hx
     · rename_i b hb
       by_cases hw : b = want
       · obtain ⟨v, U, R, h1, h2, h3⟩ := Bq3 (hx.1 hw)
         exact go ⟨v, U, R⟩ ⟨h2, .inl ⟨h3, .inr ⟨t, want, hg, by rw [hb, hw]⟩⟩⟩ h1.1 h1.2
       · have hb' : b = !want := by cases b <;> cases want <;> simp_all
         obtain ⟨h1, h2⟩ := hx.2 hb'
         exact go ⟨.tup [], [], []⟩ ⟨by simp, .inr ⟨rfl, rfl, rfl, t, want, hg, .inl (by rw [hb, hb'])⟩⟩ h1 h2
     · rename_i hb
       exact go ⟨.tup [], [], []⟩ ⟨by simp, .inr ⟨rfl, rfl, rfl, t, want, hg, .inr hb⟩⟩ hx.1 hx.2
     · exact hx.elim
theorem BP5 (s : XS) (d : Option Nat) (v : PV) (st : List Content) (t : Nat) : (s.put d v st).r t = if d = some t then v else s.r t := by
 cases d with
 | none => simp [XS.put]
 | some d =>
   simp only [XS.put, upd, Option.some.injEq]
   by_cases h : t = d
   · subst h; simp
   · rw [if_neg h, if_neg (Ne.symm h)]
theorem Bf9 (s : XS) (d : Option Nat) (v : PV) (st : List Content) : (s.put d v st).st = st := by cases d <;> rfl
section
variable {is : List XI} {outs : List Out} {s0 : XS} (hlen : outs.length = is.length)
include hlen
theorem Wb {k : Nat} {i : XI} {o : Out} (hi : is[k]? = some i) (ho : outs[k]? = some o) : Gn is outs s0 (k + 1) = (Gn is outs s0 k).put i.dst o.v (CI (Gn is outs s0 k).st o.U) := by
 have _ := hlen
 simp only [Gn, hi, ho]
theorem As1 {k : Nat} (hk : k < is.length) : ∃ i o, is[k]? = some i ∧ outs[k]? = some o :=
 ⟨is[k], outs[k]'(by omega), List.getElem?_eq_getElem hk, List.getElem?_eq_getElem _⟩
theorem AF2 : ∀ m, m ≤ is.length → (Gn is outs s0 m).st.length = s0.st.length
 | 0, _ => rfl
 | k + 1, h => by
   obtain ⟨i, o, hi, ho⟩ := As1 hlen (k := k) (by omega)
   rw [Wb hlen hi ho, Bf9, MA, AF2 k (by omega)]
theorem Vp {t : Nat} : ∀ m, m ≤ is.length → (∀ (j : Nat) (x : XI), j < m → is[j]? = some x → x.dst ≠ some t) → (Gn is outs s0 m).r t = s0.r t
 | 0, _, _ => rfl
 | k + 1, h, hn => by
   obtain ⟨i, o, hi, ho⟩ := As1 hlen (k := k) (by omega)
   rw [Wb hlen hi ho, BP5, if_neg (hn k i (by omega) hi), Vp k (by omega) (fun j x hj => hn j x (by omega))]
theorem AO5 {t j : Nat} {x : XI} {o : Out} (hj : is[j]? = some x) (ho : outs[j]? = some o) (hd : x.dst = some t) : ∀ m, j < m → m ≤ is.length → (∀ (j' : Nat) (y : XI), j < j' → is[j']? = some y → y.dst ≠ some t) → (Gn is outs s0 m).r t = o.v
 | 0, h, _, _ => by omega
 | k + 1, h, hm, hn => by
   obtain ⟨i, o', hi, ho'⟩ := As1 hlen (k := k) (by omega)
   rw [Wb hlen hi ho', BP5]
   by_cases hk : k = j
   · subst hk
     rw [hi] at hj
     cases hj
     rw [ho'] at ho
     cases ho
     rw [if_pos hd]
   · rw [if_neg (hn k i (by omega) hi), AO5 hj ho hd k (by omega) (by omega) hn]
theorem UJ {b k : Nat} : ∀ m, k ≤ m → m ≤ is.length → (∀ (j : Nat) (o : Out), k ≤ j → j < m → outs[j]? = some o → b ∉ o.U.map (·.1)) → (Gn is outs s0 m).st[b]? = (Gn is outs s0 k).st[b]?
 | 0, h, _, _ => by have : k = 0 := by omega
                    subst this; rfl
 | m + 1, h, hm, hn => by
   by_cases hk : k = m + 1
   · subst hk; rfl
   · obtain ⟨i, o, hi, ho⟩ := As1 hlen (k := m) (by omega)
     rw [Wb hlen hi ho, Bf9, Xj _ _ _ (hn m o (by omega) (by omega) ho), UJ m (by omega) (by omega) (fun j o hj hj' => hn j o hj (by omega))]
end
theorem KD {ops : List Oper} {is : List XI} {anc : List (List Nat)} (h : Bw7 ops is anc = true) :
   ops.length = is.length ∧ (∀ (k : Nat) (o : Oper), ops[k]? = some o → (∀ e, e ∈ Q7 o → e < k) ∧ ∀ j, j ∈ BP anc k → ∃ e, e ∈ Q7 o ∧ (j = e ∨ j ∈ BP anc e)) ∧
   (∀ (i j : Nat) (x y : XI) (t : Nat), is[i]? = some x → is[j]? = some y → i ≠ j → y.dst = some t → x.dst ≠ some t ∧ (t ∈ x.ments → (j < i → j ∈ BP anc i) ∧ (i < j → i ∈ BP anc j))) := by
 simp only [Bw7, Bool.and_eq_true, beq_iff_eq] at h
 obtain ⟨⟨h1, h2⟩, h3⟩ := h
 refine ⟨h1, fun k o hk => ?_, fun i j x y t hx hy hne hd => ?_⟩
 · have hkl : k < ops.length := (List.getElem?_eq_some_iff.1 hk).1
   have := List.all_eq_true.1 h2 k (List.mem_range.2 hkl)
   rw [hk] at this
   simp only [Bool.and_eq_true] at this
   refine ⟨fun e he => by simpa using List.all_eq_true.1 this.1 e he, fun j hj => ?_⟩
   have := List.all_eq_true.1 this.2 j hj
   obtain ⟨e, he, hh⟩ := List.any_eq_true.1 this
   refine ⟨e, he, ?_⟩
   simpa using hh
 · have hil : i < is.length := (List.getElem?_eq_some_iff.1 hx).1
   have hjl : j < is.length := (List.getElem?_eq_some_iff.1 hy).1
   have := List.all_eq_true.1 (List.all_eq_true.1 h3 i (List.mem_range.2 hil)) j (List.mem_range.2 hjl)
   rw [hx, hy] at this
   simp only [hd] at this
   have hij : (i == j) = false := by simpa using hne
   rw [hij] at this
   simp only [Bool.false_or, Bool.and_eq_true, bne_iff_ne, ne_eq, Bool.or_eq_true, Bool.not_eq_true'] at this
   obtain ⟨q1, q2⟩ := this
   refine ⟨q1, fun ht => ⟨fun hji => ?_, fun hij' => ?_⟩⟩
   · rcases q2 with q2 | q2
     · rw [List.contains_iff_mem.2 ht] at q2; cases q2
     · rw [if_pos hji] at q2; exact List.contains_iff_mem.1 q2
   · rcases q2 with q2 | q2
     · rw [List.contains_iff_mem.2 ht] at q2; cases q2
     · rw [if_neg (by omega)] at q2; exact List.contains_iff_mem.1 q2
def BZ0 (P : Program) (N : Nat) (ops : Array Oper) (o : Oper) (i : XI) : Prop :=
 i.dst = o.dst ∧ cOp P N o = some i.op ∧ (∀ d, o.dst = some d → d < N) ∧ ((o.guard = none ∧ i.guard = none) ∨ ∃ j want t, o.guard = some (j, want) ∧ (ops[j]?).bind (·.dst) = some t ∧ t < N ∧ i.guard = some (t, want))
theorem BZ9 {P : Program} {N : Nat} {ops : Array Oper} {o : Oper} {i : XI} (h : cI P N ops o = some i) : BZ0 P N ops o i := by
 simp only [cI] at h
 cases e3 : cOp P N o with
 | none => simp [e3] at h
 | some x =>
   simp only [e3] at h
   split at h
   case isFalse => cases h
   rename_i hdst
   have hd : ∀ d, o.dst = some d → d < N := fun d e => by rw [e] at hdst; simpa [BW3] using hdst
   cases e4 : o.guard with
   | none => simp only [e4] at h; cases h; exact ⟨rfl, e3, hd, .inl ⟨e4, rfl⟩⟩
   | some gd =>
     obtain ⟨j, want⟩ := gd
     simp only [e4] at h
     cases e5 : (ops[j]?).bind (·.dst) with
     | none => simp [e5] at h
     | some t =>
       simp only [e5] at h
       split at h
       case isFalse => cases h
       rename_i ht
       cases h
       exact ⟨rfl, e3, hd, .inr ⟨j, want, t, e4, e5, ht, rfl⟩⟩
theorem Au0 : ∀ (is : List XI) (n k : Nat) (i' : XI), (SI n is)[k]? = some i' → ∃ i, is[k]? = some i ∧ i'.dst = i.dst ∧ i'.op = i.op ∧ i'.guard = i.guard
 | [], n, k, i', h => by simp [SI] at h
 | i :: r, n, k, i', h => by
   simp only [SI] at h
   split at h
   · cases k with
     | zero => simp at h; subst h; exact ⟨i, rfl, rfl, rfl, rfl⟩
     | succ k => simp at h; obtain ⟨a, b⟩ := Au0 r _ k i' h; exact ⟨a, by simpa using b.1, b.2⟩
   · cases k with
     | zero => simp at h; subst h; exact ⟨i, rfl, rfl, rfl, rfl⟩
     | succ k => simp at h; obtain ⟨a, b⟩ := Au0 r _ k i' h; exact ⟨a, by simpa using b.1, b.2⟩
theorem Br7 {P : Program} {N : Nat} {ops : Array Oper} : ∀ (l : List Oper) (is : List XI), cIs P N ops l = some is → ∀ (k : Nat) (o : Oper) (i : XI), l[k]? = some o → is[k]? = some i → BZ0 P N ops o i
 | [], is, h, k, o, i, h1, h2 => by simp at h1
 | o :: r, is, h, k, o', i, h1, h2 => by
   simp only [cIs] at h
   cases e1 : cI P N ops o with
   | none => simp [e1] at h
   | some x => cases e2 : cIs P N ops r with
     | none => simp [e1, e2] at h
     | some xs =>
       simp [e1, e2] at h
       subst h
       cases k with
       | zero => simp at h1 h2; subst h1; subst h2; exact BZ9 e1
       | succ k => simp at h1 h2; exact Br7 r xs e2 k o' i h1 h2
def On (listed : Array Bool) (k : Nat) : Prop := listed[k]? = some true
structure Part (is : List XI) (outs : List Out) (anc : List (List Nat)) (s0 : XS) (listed : Array Bool) (s : XS) : Prop where
 size : listed.size = is.length
 closed : ∀ k, On listed k → ∀ j, j ∈ BP anc k → On listed j
 len : s.st.length = s0.st.length
 slotsA : ∀ (i : Nat) (x : XI) (o : Out) (t : Nat), On listed i → is[i]? = some x → outs[i]? = some o → x.dst = some t → s.r t = o.v
 slotsN : ∀ t, (∀ (i : Nat) (x : XI), On listed i → is[i]? = some x → x.dst ≠ some t) → s.r t = s0.r t
 stP : ∀ b m, m ≤ is.length → (∀ (j : Nat) (o : Out), outs[j]? = some o → b ∈ o.U.map (·.1) → (On listed j ↔ j < m)) → s.st[b]? = (Gn is outs s0 m).st[b]?
section
variable {P : Program} {N B : Nat} {w0 : World} {ops : Array Oper} {is : List XI} {outs : List Out} {anc : List (List Nat)} {s0 : XS}
variable (hok : Bw7 ops.toList is anc = true) (hlen : outs.length = is.length) (htr : ∀ (k : Nat) (o : Oper) (i : XI), ops.toList[k]? = some o → is[k]? = some i → BZ0 P N ops o i)
variable (hop : ∀ (j : Nat) (i : XI) (o : Out), is[j]? = some i → outs[j]? = some o → BV7 P i (Gn is outs s0 j) o) (hpr : ∀ j, j < is.length → Bd0 anc outs j)
include hok hlen
theorem BM3 {listed : Array Bool} {s : XS} (hp : Part is outs anc s0 listed s) {k : Nat} {x : XI} (hx : is[k]? = some x) (hoff : ¬ On listed k) (hanc : ∀ j, j ∈ BP anc k → On listed j) : ∀ t, t ∈ x.ments → s.r t = (Gn is outs s0 k).r t := by
 intro t ht
 obtain ⟨_, _, h3⟩ := KD hok
 have hkl : k < is.length := (List.getElem?_eq_some_iff.1 hx).1
 by_cases hw : ∃ (j : Nat) (y : XI), is[j]? = some y ∧ y.dst = some t
 · obtain ⟨j, y, hy, hd⟩ := hw
   have huniq : ∀ (j' : Nat) (z : XI), j' ≠ j → is[j']? = some z → z.dst ≠ some t := fun j' z hne hz => (h3 j' j z y t hz hy hne hd).1
   obtain ⟨_, o, hy', ho⟩ := As1 hlen (k := j) (List.getElem?_eq_some_iff.1 hy).1
   rw [hy] at hy'
   cases hy'
   by_cases hjk : j = k
   · subst hjk
     rw [hp.slotsN t (fun i z hi hz => by
       by_cases e : i = j
       · subst e; exact absurd hi hoff
       · exact huniq i z e hz), Vp hlen j (by omega) (fun j' z hj' hz => huniq j' z (by omega) hz)]
   · obtain ⟨q1, q2⟩ := (h3 k j x y t hx hy (Ne.symm hjk) hd).2 ht
     by_cases hlt : j < k
     · rw [hp.slotsA j y o t (hanc j (q1 hlt)) hy ho hd, AO5 hlen hy ho hd k hlt (by omega) (fun j' z hj' hz => huniq j' z (by omega) hz)]
     · have hk := q2 (by omega)
       rw [hp.slotsN t (fun i z hi hz => by
         by_cases e : i = j
         · subst e; exact absurd (hp.closed i hi k hk) hoff
         · exact huniq i z e hz), Vp hlen k (by omega) (fun j' z hj' hz => huniq j' z (by omega) hz)]
 · have hn : ∀ (j : Nat) (z : XI), is[j]? = some z → z.dst ≠ some t := fun j z hz hd => hw ⟨j, z, hz, hd⟩
   rw [hp.slotsN t (fun i z _ hz => hn i z hz), Vp hlen k (by omega) (fun j z _ hz => hn j z hz)]
include hpr
theorem Bi1 {listed : Array Bool} {s : XS} (hp : Part is outs anc s0 listed s) {k : Nat} {o : Out} (ho : outs[k]? = some o) (hoff : ¬ On listed k) (hanc : ∀ j, j ∈ BP anc k → On listed j)
   (hUR : ∀ (j : Nat) (p : Out), outs[j]? = some p → ∀ b, b ∈ p.U.map (·.1) → b ∈ p.R) : ∀ b, b ∈ o.R → s.st[b]? = (Gn is outs s0 k).st[b]? := by
 intro b hb
 have _ := hok
 have hkl : k < is.length := by rw [← hlen]; exact (List.getElem?_eq_some_iff.1 ho).1
 refine hp.stP b k (by omega) fun j p hj hbj => ?_
 have hjl : j < is.length := by rw [← hlen]; exact (List.getElem?_eq_some_iff.1 hj).1
 by_cases hjk : j = k
 · subst hjk; exact ⟨fun h => absurd h hoff, fun h => by omega⟩
 · by_cases hlt : j < k
   · by_cases hin : j ∈ BP anc k
     · exact ⟨fun _ => hlt, fun _ => hanc j hin⟩
     · exact absurd rfl ((hpr k hkl j p o hlt hj ho hin).1 b hbj b hb)
   · by_cases hin : k ∈ BP anc j
     · exact ⟨fun h => absurd (hp.closed j h k hin) hoff, fun h => by omega⟩
     · exact absurd rfl ((hpr j hjl k o p (by omega) ho hj hin).2 b hbj b hb)
theorem BT2 {listed : Array Bool} {s : XS} (hp : Part is outs anc s0 listed s) {k : Nat} {x : XI} {o : Out} (hx : is[k]? = some x) (ho : outs[k]? = some o) (hoff : ¬ On listed k) (hanc : ∀ j, j ∈ BP anc k → On listed j)
   (hUR : ∀ (j : Nat) (p : Out), outs[j]? = some p → ∀ b, b ∈ p.U.map (·.1) → b ∈ p.R) : Part is outs anc s0 (listed.setIfInBounds k true) (s.put x.dst o.v (CI s.st o.U)) := by
 have hkl : k < is.length := (List.getElem?_eq_some_iff.1 hx).1
 have hon : ∀ j, On (listed.setIfInBounds k true) j ↔ (j = k ∨ On listed j) := fun j => by
   unfold On
   rw [Array.getElem?_setIfInBounds]
   by_cases e : k = j
   · subst e; simp [hp.size, hkl]
   · rw [if_neg e]
     exact ⟨.inr, fun h => h.resolve_left (fun h => e h.symm)⟩
 obtain ⟨_, _, h3⟩ := KD hok
 refine ⟨by simp [hp.size], fun i hi j hj => ?_, by rw [Bf9, MA]; exact hp.len, fun i y p t hi hy hp' hd => ?_, fun t hn => ?_, fun b m hm hA => ?_⟩
 · rcases (hon i).1 hi with e | e
   · subst e; exact (hon j).2 (.inr (hanc j hj))
   · exact (hon j).2 (.inr (hp.closed i e j hj))
 · rw [BP5]
   rcases (hon i).1 hi with e | e
   · subst e
     rw [hx] at hy; cases hy
     rw [ho] at hp'; cases hp'
     rw [if_pos hd]
   · have hne : i ≠ k := fun h => hoff (h ▸ e)
     rw [if_neg (h3 k i x y t hx hy (Ne.symm hne) hd).1]
     exact hp.slotsA i y p t e hy hp' hd
 · rw [BP5, if_neg (hn k x ((hon k).2 (.inl rfl)) hx)]
   exact hp.slotsN t fun i y hi hy => hn i y ((hon i).2 (.inr hi)) hy
 · rw [Bf9]
   by_cases hb : b ∈ o.U.map (·.1)
   · have hkm : k < m := (hA k o ho hb).1 ((hon k).2 (.inl rfl))
     have hname := Bi1 hok hlen hpr hp ho hoff hanc hUR b (hUR k o ho b hb)
     have e1 : (CI s.st o.U)[b]? = (Gn is outs s0 (k + 1)).st[b]? := by
       rw [Wb hlen hx ho, Bf9]
       exact T5 _ _ _ b (by rw [hp.len, AF2 hlen k (by omega)]) (.inl hb)
     rw [e1]
     refine (UJ hlen (k := k + 1) m (by omega) hm fun j p hj1 hj2 hj hbj => ?_).symm
     have hjl : j < is.length := by omega
     have hjon : On listed j := ((hon j).1 ((hA j p hj hbj).2 hj2)).resolve_left (by omega)
     by_cases hin : k ∈ BP anc j
     · exact hoff (hp.closed j hjon k hin)
     · exact (hpr j hjl k o p (by omega) ho hj hin).1 b hb b (hUR j p hj b hbj) rfl
   · rw [Xj _ _ _ hb]
     refine hp.stP b m hm fun j p hj hbj => ?_
     have hjk : j ≠ k := fun e => by subst e; rw [ho] at hj; cases hj; exact hb hbj
     rw [← hA j p hj hbj, hon]
     exact ⟨.inr, fun h => h.resolve_left hjk⟩
theorem BQ6 {listed : Array Bool} {s : XS} (hp : Part is outs anc s0 listed s) (hall : ∀ k, k < is.length → On listed k) : s = Gn is outs s0 is.length := by
 have _ := hpr
 obtain ⟨_, _, h3⟩ := KD hok
 have hr : s.r = (Gn is outs s0 is.length).r := by
   funext t
   by_cases hw : ∃ (j : Nat) (y : XI), is[j]? = some y ∧ y.dst = some t
   · obtain ⟨j, y, hy, hd⟩ := hw
     have hjl := (List.getElem?_eq_some_iff.1 hy).1
     obtain ⟨_, o, hy', ho⟩ := As1 hlen (k := j) hjl
     rw [hp.slotsA j y o t (hall j hjl) hy ho hd, AO5 hlen hy ho hd is.length hjl (Nat.le_refl _) (fun j' z hj' hz => (h3 j' j z y t hz hy (by omega) hd).1)]
   · have hn : ∀ (j : Nat) (z : XI), is[j]? = some z → z.dst ≠ some t := fun j z hz hd => hw ⟨j, z, hz, hd⟩
     rw [hp.slotsN t (fun i z _ hz => hn i z hz), Vp hlen is.length (Nat.le_refl _) (fun j z _ hz => hn j z hz)]
 have hst : s.st = (Gn is outs s0 is.length).st := by
   apply List.ext_getElem?
   intro b
   refine hp.stP b is.length (Nat.le_refl _) fun j p hj hbj => ?_
   have hjl : j < is.length := by rw [← hlen]; exact (List.getElem?_eq_some_iff.1 hj).1
   exact ⟨fun _ => hjl, fun _ => hall j hjl⟩
 cases s
 cases h : Gn is outs s0 is.length
 rw [h] at hr hst
 simp at hr hst
 rw [hr, hst]
include htr hop
theorem BY1 {n : Nat} {Q : Exit → Act → World → Prop} {M0 : Mem} {g0 : Nam} (hn : n ≤ s0.st.length)
   (hq : ∀ M g a w, MLe M0 M → NLe n g0 g → XRel P N B w0 M g (Gn is outs s0 is.length) a w → Q .normal a w) :
   ∀ (fuel : Nat) (listed : Array Bool) (s : XS) (M : Mem) (g : Nam) (a : Act) (w : World), ((List.range is.length).filter fun k => listed[k]? != some true).length ≤ fuel → Part is outs anc s0 listed s → MLe M0 M → NLe n g0 g → XRel P N B w0 M g s a w → wpAny P .any ops Q fuel listed a w := by
 obtain ⟨hlo, h2, h3⟩ := KD hok
 have hUR : ∀ (j : Nat) (p : Out), outs[j]? = some p → ∀ b, b ∈ p.U.map (·.1) → b ∈ p.R := fun j p hj => by
   obtain ⟨i, hi⟩ : ∃ i, is[j]? = some i := ⟨is[j]'(by rw [← hlen]; exact (List.getElem?_eq_some_iff.1 hj).1), List.getElem?_eq_getElem _⟩
   exact (hop j i p hi hj).1
 -- all is listed where nothing is ready
 have done : ∀ (listed : Array Bool) (s : XS), Part is outs anc s0 listed s → Region.ready .any ops listed = [] → ∀ k, k < is.length → On listed k := fun listed s hp hr => by
   intro k
   induction k using Nat.strongRecOn with
   | _ k ih =>
     intro hk
     apply Classical.byContradiction
     intro hoff
     have hok' : ops.toList[k]? = some (ops.toList[k]'(by omega)) := List.getElem?_eq_getElem _
     have hmem : k ∈ Region.ready .any ops listed := by
       refine mem_ready.2 ⟨?_, ops.toList[k]'(by omega), by rw [← Array.getElem?_toList]; exact hok', fun e he hb => ?_⟩
       · have hkl : k < listed.size := by rw [hp.size]; exact hk
         simp only [On, Array.getElem?_eq_getElem hkl, Option.some.injEq] at hoff
         simp [Array.getD, hkl]
         simpa using hoff
       · have hin : e.on ∈ Q7 (ops.toList[k]'(by omega)) := by
           simp only [Q7, List.mem_filterMap]
           exact ⟨e, by simpa using he, by simp [hb]⟩
         have hlt := (h2 k _ hok').1 e.on hin
         have := ih e.on hlt (by omega)
         simp only [On] at this
         simp [Array.getD_eq_getD_getElem?, this]
     rw [hr] at hmem
     cases hmem
 have finish : ∀ (listed : Array Bool) (s : XS) (M : Mem) (g : Nam) (a : Act) (w : World), Part is outs anc s0 listed s → MLe M0 M → NLe n g0 g → XRel P N B w0 M g s a w → (∀ k, k < is.length → On listed k) → Q .normal a w := fun listed s M g a w hp hM hN hx hall => by
   have := BQ6 hok hlen hpr hp hall
   subst this
   exact hq M g a w hM hN hx
 intro fuel
 induction fuel with
 | zero =>
   intro listed s M g a w hf hp hM hN hx
   have hnil : ((List.range is.length).filter fun k => listed[k]? != some true) = [] := List.eq_nil_of_length_eq_zero (by omega)
   have hall : ∀ k, k < is.length → On listed k := fun k hk => by
     have := (List.filter_eq_nil_iff.1 hnil) k (List.mem_range.2 hk)
     simpa [On] using this
   refine ⟨?_, finish listed s M g a w hp hM hN hx hall⟩
   cases hr : Region.ready .any ops listed with
   | nil => rfl
   | cons k r =>
     have hm : k ∈ Region.ready .any ops listed := by rw [hr]; simp
     obtain ⟨q1, o, q2, _⟩ := mem_ready.1 hm
     have hkl : k < is.length := by rw [← hlo]; simpa using (Array.getElem?_eq_some_iff.1 q2).1
     have := hall k hkl
     simp [On] at this
     simp [Array.getD_eq_getD_getElem?, this] at q1
 | succ fuel ih =>
   intro listed s M g a w hf hp hM hN hx
   refine ⟨fun hr => finish listed s M g a w hp hM hN hx (done listed s hp hr), fun k hk => ?_⟩
   obtain ⟨q1, oper, q2, q3⟩ := mem_ready.1 hk
   have q2' : ops.toList[k]? = some oper := by rw [Array.getElem?_toList]; exact q2
   have hkl : k < is.length := by rw [← hlo]; exact (List.getElem?_eq_some_iff.1 q2').1
   obtain ⟨x, o, hxi, hoi⟩ := As1 hlen (k := k) hkl
   have hoff : ¬ On listed k := fun h => by simp [On] at h; simp [Array.getD_eq_getD_getElem?, h] at q1
   have hbind : ∀ e, e ∈ Q7 oper → On listed e := fun e he => by
     simp only [Q7, List.mem_filterMap] at he
     obtain ⟨ed, h1, h2⟩ := he
     split at h2
     · rename_i hb
       cases h2
       have := q3 ed (by simpa using h1) hb
       simp only [On]
       cases e' : listed[ed.on]? with
       | none => simp [Array.getD_eq_getD_getElem?, e'] at this
       | some b => simp [Array.getD_eq_getD_getElem?, e'] at this; rw [this]
     · cases h2
   have hanc : ∀ j, j ∈ BP anc k → On listed j := fun j hj => by
     obtain ⟨e, he, hh⟩ := (h2 k oper q2').2 j hj
     rcases hh with rfl | hh
     · exact hbind j he
     · exact hp.closed e (hbind e he) j hh
   have hs := BM3 hok hlen hp hxi hoff hanc
   have hnm := Bi1 hok hlen hpr hp hoi hoff hanc hUR
   have hl2 : s.st.length = (Gn is outs s0 k).st.length := by rw [hp.len, AF2 hlen k (by omega)]
   have hstep := BT2 hok hlen hpr hp hxi hoi hoff hanc hUR
   have hcount : ((List.range is.length).filter fun j => (listed.setIfInBounds k true)[j]? != some true).length ≤ fuel := by
     have hlt : ((List.range is.length).filter fun j => (listed.setIfInBounds k true)[j]? != some true).length < ((List.range is.length).filter fun j => listed[j]? != some true).length := by
       have hsub : ∀ l : List Nat, l.Nodup → k ∈ l → (l.filter fun j => (listed.setIfInBounds k true)[j]? != some true).length < (l.filter fun j => listed[j]? != some true).length := by
         intro l hnd hkl'
         have hle : ∀ m : List Nat, (m.filter fun j => (listed.setIfInBounds k true)[j]? != some true).length ≤ (m.filter fun j => listed[j]? != some true).length := by
           intro m
           induction m with
           | nil => simp
           | cons y ys ihy =>
             simp only [List.filter_cons]
             by_cases e : k = y
             · subst e
               rw [if_neg (by rw [Array.getElem?_setIfInBounds]; simp [hp.size, hkl])]
               split
               · simp; omega
               · exact ihy
             · rw [Array.getElem?_setIfInBounds_ne e]
               split
               · simp; omega
               · exact ihy
         induction l with
         | nil => cases hkl'
         | cons y ys ihy =>
           simp only [List.filter_cons]
           by_cases e : k = y
           · subst e
             rw [if_neg (by rw [Array.getElem?_setIfInBounds]; simp [hp.size, hkl]), if_pos (by simpa [On] using hoff)]
             have := hle ys
             simp only [List.length_cons]
             omega
           · have hin : k ∈ ys := by simpa [e] using hkl'
             rw [Array.getElem?_setIfInBounds_ne e]
             have := ihy (List.nodup_cons.1 hnd).2 hin
             split
             · simp only [List.length_cons]; omega
             · exact this
       exact hsub _ List.nodup_range (List.mem_range.2 hkl)
     omega
   obtain ⟨t1, t2, t3, t4⟩ := htr k oper x q2' hxi
   obtain ⟨_, hcase⟩ := hop k x o hxi hoi
   -- the guard's slot
   have guardSlot : ∀ t want, x.guard = some (t, want) → s.r t = (Gn is outs s0 k).r t := fun t want hg => hs t (by simp [XI.ments, hg])
   have skipRun : (o.v = .tup [] ∧ o.U = [] ∧ o.R = [] ∧ ∃ t want, x.guard = some (t, want) ∧ ((Gn is outs s0 k).r t = .d (.bool (!want)) ∨ (Gn is outs s0 k).r t = .tup [])) →
       Region.wanted oper (yielded ops a.tmps) = false ∧ wpAny P .any ops Q fuel (listed.setIfInBounds k true) (a.put oper.dst undef) w := fun ⟨e1, e2, e3, t, want, hg, hb⟩ => by
     rcases t4 with ⟨_, t4⟩ | ⟨j, want', t', g1, g2, g3, g4⟩
     · rw [t4] at hg; cases hg
     · have hgs := guardSlot t want hg
       rw [g4] at hg
       cases hg
       obtain ⟨y1, y2⟩ := At0 hx g2 g3
       rw [← hgs] at hb
       refine ⟨?_, ?_⟩
       · rcases hb with hb | hb
         · have := y1 _ hb; simp [Region.wanted, g1, this]
         · have := y2 hb; simp [Region.wanted, g1, this]
       · have hx' := Am6 (dst := oper.dst) (v := undef) (p := .tup []) hx (MLe.refl M) (NLe.refl _ g) hx.st (.tup [] [] rfl (fun i v p h => by simp at h)) t3
         rw [t1, e1, e2] at hstep
         exact ih _ _ M g _ w hcount hstep hM hN hx'
   unfold wpOp
   simp only [q2]
   rcases hcase with ⟨hld, hg⟩ | hskip
   · have hwant : Region.wanted oper (yielded ops a.tmps) = true := by
       rcases t4 with ⟨g1, _⟩ | ⟨j, want', t', g1, g2, g3, g4⟩
       · simp [Region.wanted, g1]
       · rcases hg with hg | ⟨t, b, hg, hb⟩
         · rw [g4] at hg; cases hg
         · have hgs := guardSlot t b hg
           rw [g4] at hg
           cases hg
           obtain ⟨y1, _⟩ := At0 hx g2 g3
           rw [← hgs] at hb
           have := y1 _ hb
           simp [Region.wanted, g1, this]
     rw [if_pos hwant]
     left
     refine hld s hl2 (fun t ht => hs t (by simp [XI.ments, ht])) hnm N B w0 M g a w oper _ Q hx t2 fun v' w' M' g' a1 a2 a3 a4 => ?_
     have hx' := Am6 (dst := oper.dst) hx a1 a2 a3 a4 t3
     rw [t1] at hstep
     refine ih _ _ M' g' _ w' hcount hstep (hM.trans a1) (hN.trans (a2.mono ?_)) hx'
     rw [hp.len]; exact hn
   · obtain ⟨z1, z2⟩ := skipRun hskip
     rw [if_neg (by rw [z1]; simp)]
     exact z2
end
end Go.Ax
