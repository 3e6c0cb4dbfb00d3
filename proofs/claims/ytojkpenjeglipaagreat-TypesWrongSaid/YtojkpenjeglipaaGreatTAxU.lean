import Derived.Test.YtojkpenjeglipaaGreatTAxT
set_option linter.unusedVariables false
namespace Go.Ax
section
variable {P : Program} {s : XS}
theorem Au6 {o : XOp} {K K' : PV → List Content → Prop} (hk : xop P o K s) (hi : ∀ v st, K v st → K' v st) : xop P o K' s := by
 by_cases hp : Dp o = true
 · rw [Cb3 (s := s) (s2 := s) hp (fun _ _ => rfl) (fun _ _ => rfl)] at hk ⊢
   obtain ⟨v, h1, h2⟩ := Cc6 hp hk
   exact h2 (fun v => K' v s.st) (hi _ _ h1)
 · cases o with
   | box x => exact ⟨hk.1, hi _ _ hk.2⟩
   | alloc z => exact hi _ _ hk
   | store size x y =>
     simp only [xop] at hk ⊢
     split at hk
     · split at hk
       · exact ⟨hk.1, hk.2.1, hk.2.2.1, hi _ _ hk.2.2.2⟩
       · exact hk.elim
     · exact hk.elim
   | append e size bytes x y =>
     simp only [xop] at hk ⊢
     split at hk
     · rename_i ys hys
       try simp only [hys]
       obtain ⟨h1, hk⟩ := hk
       refine ⟨h1, ?_⟩
       split at hk
       · exact ⟨hk.1, hk.2.1, hi _ _ hk.2.2⟩
       · split at hk
         · exact ⟨hk.1, hk.2.1, hk.2.2.1, hi _ _ hk.2.2.2⟩
         · exact hk.elim
       · exact hk.elim
     · exact hk.elim
   | eqNil neg x =>
     simp only [xop] at hk ⊢
     split at hk
     · exact ⟨fun e => hi _ _ (hk.1 e), hi _ _ hk.2⟩
     · exact hk.elim
   | call f args => exact Aw.mono hk hi
   | dyn x args =>
     simp only [xop] at hk ⊢
     split at hk
     · exact Aw.mono hk hi
     · exact hk.elim
   | mkMap k e => exact hi _ _ hk
   | mapSet k e m x y =>
     simp only [xop] at hk ⊢
     split at hk
     · split at hk
       · exact ⟨hk.1, hk.2.1, hk.2.2.1, hk.2.2.2.1, hi _ _ hk.2.2.2.2⟩
       · exact hk.elim
     · exact hk.elim
   | _ => simp [Dp] at hp
theorem R7 {K K' : XS → Prop} (hi : ∀ s, K s → K' s) : ∀ (l : List XI) (s : XS), FA P l K s → FA P l K' s
 | [], s, h => hi s h
 | i :: r, s, h => by
   simp only [FA] at h ⊢
   split at h
   · rename_i hg
     exact Au6 h fun v st hk => R7 hi r _ hk
   · rename_i t want hg
     split at h
     · rename_i b hb
       try simp only [hb]
       exact ⟨fun e => Au6 (h.1 e) fun v st hk => R7 hi r _ hk, fun e => R7 hi r _ (h.2 e)⟩
     · rename_i hb
       try simp only [hb]
       exact R7 hi r _ h
     · exact h.elim
theorem R8 {base : Nat} {K K' : XS → Prop} (hi : ∀ s, K s → K' s) : ∀ (l : List XI) (s : XS), F2 P base l K s → F2 P base l K' s
 | [], s, h => hi s h
 | i :: r, s, h => by
   simp only [F2] at h ⊢
   split at h
   · rename_i hg
     exact Jo h fun v U R hk => R8 hi r _ hk
   · rename_i t want hg
     split at h
     · rename_i b hb
       try simp only [hb]
       exact ⟨fun e => Jo (h.1 e) fun v U R hk => R8 hi r _ hk, fun e => R8 hi r _ (h.2 e)⟩
     · rename_i hb
       try simp only [hb]
       exact R8 hi r _ h
     · exact h.elim
theorem SX {anc : List (List Nat)} {base : Nat} {K K' : XS → Prop} (hi : ∀ s, K s → K' s) : ∀ (l : List XI) (k : Nat) (acc : List (List Nat × List Nat)) (s : XS), IS P anc base k l acc K s → IS P anc base k l acc K' s
 | [], k, acc, s, h => hi s h
 | i :: r, k, acc, s, h => by
   simp only [IS] at h ⊢
   split at h
   · rename_i hg
     exact Jo h fun v U R hk => ⟨hk.1, SX hi r _ _ _ hk.2⟩
   · rename_i t want hg
     split at h
     · rename_i b hb
       try simp only [hb]
       exact ⟨fun e => Jo (h.1 e) fun v U R hk => ⟨hk.1, SX hi r _ _ _ hk.2⟩, fun e => ⟨(h.2 e).1, SX hi r _ _ _ (h.2 e).2⟩⟩
     · rename_i hb
       try simp only [hb]
       exact ⟨h.1, SX hi r _ _ _ h.2⟩
     · exact h.elim
theorem JS {n : Nat} : ∀ (c : XC) {Q Q' : XE → XS → Prop} (hi : ∀ e s, Q e s → Q' e s) (s : XS), BH P n c Q s → BH P n c Q' s
 | .skip, Q, Q', hi, s, h => hi _ _ h
 | .region ops, Q, Q', hi, s, h => R7 (fun s h => hi _ _ h) ops s h
 | .regionD ops anc nf, Q, Q', hi, s, h => SX (fun s h => hi _ _ h) ops _ _ _ h
 | .regionS ops nf, Q, Q', hi, s, h => R8 (fun s h => hi _ _ h) ops _ h
 | .seq a b, Q, Q', hi, s, h => JS a (fun e s h => by
     cases e with
     | normal => exact JS b hi s h
     | exit id => exact hi _ _ h
     | ret => exact hi _ _ h) s h
 | .cond c a b, Q, Q', hi, s, h => by
     simp only [BH] at h ⊢
     split at h
     · exact ⟨fun e => JS a hi s (h.1 e), fun e => JS b hi s (h.2 e)⟩
     · exact h.elim
 | .block id b, Q, Q', hi, s, h => JS b (fun e s h => by
     cases e with
     | normal => exact hi _ _ h
     | exit id' => simp only [Cq] at h ⊢; split at h <;> simp_all
     | ret => exact hi _ _ h) s h
 | .loop b, Q, Q', hi, s, h => by
     obtain ⟨I, h0, h1⟩ := h
     refine ⟨I, h0, fun m s hm => JS b (fun e s h => ?_) s (h1 m s hm)⟩
     cases e with
     | normal => exact h
     | exit id => exact hi _ _ h
     | ret => exact hi _ _ h
 | .exit id, Q, Q', hi, s, h => hi _ _ h
 | .ret, Q, Q', hi, s, h => hi _ _ h
theorem BL {n : Nat} {Q : XE → XS → Prop} {a b : XC} (I : (Nat → PV) → List Content → Prop) (h1 : BH P n a (Hp (fun s => I s.r s.st) Q) s) (h2 : ∀ f st, I f st → BH P n b Q ⟨f, st⟩) : BH P n (.seq a b) Q s :=
 JS a (fun e s h => by
   cases e with
   | normal => exact h2 _ _ h
   | exit id => exact h
   | ret => exact h) s h1
end
def Dw {α : Type} (l : List α) (i : Int) : Option α := if 0 ≤ i then l[i.toNat]? else none
def BF1 (b : ByteArray) (i : Int) : Option Int := if 0 ≤ i ∧ i < b.size then some (YD b i.toNat) else none
def MM {α : Type} (bytes : Nat) (l ys : List α) : Option (List α) := if (l.length + ys.length) * bytes ≤ 140737488355328 then some (l ++ ys) else none
def Br2 (p : Bool) : Option Unit := if p then some () else none
def rB (b : Bool) : List D := [.bool b]
def rI (k : IntKind) (n : Int) : List D := [.int k n]
def rS (s : ByteArray) : List D := [.str s]
def rL {α : Type} (row : α → List D) (l : List α) : List D := [.sl (l.map row)]
def DV (b : ByteArray) : List Int := b.data.toList.map fun u => (u.toNat : Int)
theorem Bw2 (b : ByteArray) : FL b = List.map (rI .u8) (DV b) := by simp [FL, DV, rI]
theorem bind_some {α β : Type} {o : Option α} {k : α → Option β} {r : β} (h : o.bind k = some r) : ∃ x, o = some x ∧ k x = some r := by
 cases o with
 | none => cases h
 | some x => exact ⟨x, rfl, h⟩
section
variable {P : Program} {m : Mode} {r : List XI} {K : XS → Prop} {f : Nat → PV} {st : List Content} {d nm : Nat} {n : Nat} {Q : XE → XS → Prop} {s : XS} {ρ : Type} {res : ρ}
theorem AB {x : XA} {a b : XC} {c : Bool} {A B : ρ} (hc : ev s x = .d (.bool c)) (hr : (bif c then A else B) = res) (h1 : A = res → BH P n a Q s) (h2 : B = res → BH P n b Q s) : BH P n (.cond x a b) Q s := by
 cases c
 · exact FO hc (h2 hr)
 · exact DC hc (h1 hr)
theorem Ar {o : XOp} {ds : Option Nat} {t : Nat} {want c : Bool} {A B : ρ} (ht : f t = .d (.bool c)) (hr : (bif c then A else B) = res) (h1 : A = res → Bf P m (⟨ds, o, some (t, want), nm⟩ :: r) K ⟨upd f t (.d (.bool true)), st⟩) (h2 : B = res → Bf P m (⟨ds, o, some (t, want), nm⟩ :: r) K ⟨upd f t (.d (.bool false)), st⟩) :
   Bf P m (⟨ds, o, some (t, want), nm⟩ :: r) K ⟨f, st⟩ := by
 cases c
 · rw [← AH4 ht]; exact h2 hr
 · rw [← AH4 ht]; exact h1 hr
theorem Bt {α β : Type} {size : Nat} {x i : XA} {row cells : α → List D} {l : List α} {k : IntKind} {j : Int} {ko : α → Option β} {v : β} (hx : A4 st (ev ⟨f, st⟩ x) = some (l.map row)) (hi : ev ⟨f, st⟩ i = .d (.int k j)) (hr : (Dw l j).bind ko = some v) (hc : ∀ a, row a = cells a) (hz : ∀ a, (cells a).length = size)
   (h : ∀ a, ko a = some v → Bf P m r K ⟨upd f d (.dp (cells a)), st⟩) : Bf P m (⟨some d, .indexAddr size x i, none, nm⟩ :: r) K ⟨f, st⟩ := by
 obtain ⟨a, ha, hr⟩ := bind_some hr
 unfold Dw at ha
 split at ha
 · rename_i h0
   have hlt := (List.getElem?_eq_some_iff.1 ha).1
   refine Ci7 hx hi h0 (by simp; omega) (row := cells a) ?_ (hz a) (h a hr)
   rw [List.getElem?_map, ha, ← hc]; rfl
 · cases ha
theorem Bv3 {β : Type} {x i : XA} {b : ByteArray} {k : IntKind} {j : Int} {ko : Int → Option β} {v : β} (hx : ev ⟨f, st⟩ x = .d (.str b)) (hi : ev ⟨f, st⟩ i = .d (.int k j)) (hr : (BF1 b j).bind ko = some v) (h : ∀ a, ko a = some v → Bf P m r K ⟨upd f d (.d (.int .u8 a)), st⟩) : Bf P m (⟨some d, .indexStr x i, none, nm⟩ :: r) K ⟨f, st⟩ := by
 obtain ⟨a, ha, hr⟩ := bind_some hr
 unfold BF1 at ha
 split at ha
 · rename_i h0
   cases ha
   exact Cg8 hx hi h0.1 h0.2 (h _ hr)
 · cases ha
theorem Bc {α : Type} {x : XA} {row : α → List D} {l : List α} (hx : A4 st (ev ⟨f, st⟩ x) = some (l.map row)) (h : Bf P m r K ⟨upd f d (.d (.int .i64 l.length)), st⟩) : Bf P m (⟨some d, .lenR x, none, nm⟩ :: r) K ⟨f, st⟩ :=
 Cg4 hx (by rw [List.length_map]; exact h)
variable {l : List Content} {n0 k : Nat}
theorem JL {α β : Type} {e size bytes : Nat} {x y : XA} {row cells : α → List D} {xs ys : List α} {t ver : Nat} {ko : List α → Option β} {v : β} (hy : A4 st (ev ⟨f, st⟩ y) = some (ys.map row)) (hc : ∀ a, row a = cells a) (hz : ∀ a, (cells a).length = size) (hx : ev ⟨f, st⟩ x = .own t ver) (ht : st[t]? = some (.row e ver (xs.map row))) {st' : List α → List Content} (hst : ∀ a : List α, st.set t (.row e (ver + 1) (a.map row)) = st' a) (hr : (MM bytes xs ys).bind ko = some v)
   (h : ∀ a, ko a = some v → Bf P m r K ⟨upd f d (.own t (ver + 1)), st' a⟩) : Bf P m (⟨some d, .append e size bytes x y, none, nm⟩ :: r) K ⟨f, st⟩ := by
 obtain ⟨a, ha, hr⟩ := bind_some hr
 unfold MM at ha
 split at ha
 · rename_i h0
   cases ha
   have h1 : ∀ zs : List α, ∀ row', row' ∈ zs.map row → row'.length = size := fun zs row' hm => by obtain ⟨a, _, rfl⟩ := List.mem_map.1 hm; rw [hc]; exact hz a
   refine Cg5 hy (h1 ys) hx ht (by simpa using h0) (st' := st' (xs ++ ys)) ?_ (h _ hr)
   rw [← hst, List.map_append]
 · cases ha
theorem BM8 {x : XA} {b : ByteArray} (hx : ev ⟨f, st⟩ x = .d (.str b)) (h : Bf P m r K ⟨upd f d (.d (.sl ((DV b).map (rI .u8)))), st⟩) : Bf P m (⟨some d, .toBytes x, none, nm⟩ :: r) K ⟨f, st⟩ :=
 BQ5 hx (by rw [Bw2]; exact h)
end
section
variable {K : D → Prop} {k : IntKind} {a b : Int} {β : Type}
theorem BZ5 {ko : Unit → Option β} {v : β} (hr : (Br2 (decide (b ≠ 0))).bind ko = some v) (h : ko () = some v → K (.int k (a.tmod b))) : EO .rem K (.int k a) (.int k b) := by
 obtain ⟨x, hx, hr⟩ := bind_some hr
 unfold Br2 at hx
 split at hx
 · rename_i hb; exact Cj8 (by simpa using hb) (h hr)
 · cases hx
variable {x y : ByteArray}
end
theorem Cy {P : Program} {n : Nat} {b : XC} {Q : XE → XS → Prop} {s : XS} (I : Nat → (Nat → PV) → List Content → Prop) (m : Nat) {s0 : XS} (hg : Ghost P n s s0) (h0 : I m s0.r s0.st) (h : ∀ m f st, I m f st → BH P n b (Hp (fun s1 => ∃ m' s', m' < m ∧ Ghost P n s1 s' ∧ I m' s'.r s'.st) Q) ⟨f, st⟩) : BH P n (.loop b) Q s :=
 ⟨fun m s => I m s.r s.st, ⟨m, s0, hg, h0⟩, fun m s hi => h m s.r s.st hi⟩
theorem H1 {B l0 l1 : List Content} {k n0 : Nat} (hB : WF B) (hn : B.length = n0) (hl : l0.length = k) (h0 : l0.map (X2 (n0 + k)) = l0) : HI (n0 + k) (B ++ (l0 ++ l1)) = B ++ l0 := by
 subst hn; subst hl
 have e : (B ++ (l0 ++ l1)).take (B.length + l0.length) = B ++ l0 := by
   rw [← List.append_assoc, ← List.length_append, List.take_left]
 have e2 := Bw5 hB (n := B.length + l0.length) (by omega)
 unfold HI at e2 ⊢
 rw [List.take_of_length_le (by omega)] at e2
 rw [e, List.map_append, h0, e2]
theorem WF.setBox {st : List Content} {x : Nat} {cells : List PV} (h : WF st) (hc : AP.belowL st.length cells = true) : WF (st.set x (.box cells)) := fun cs hm => by
 rw [List.length_set]
 rcases List.mem_or_eq_of_mem_set hm with hm | hm
 · exact h cs hm
 · cases hm; exact hc
theorem Cc0 {B l : List Content} {n : Nat} (h : WF B) (hn : B.length = n) : HI n (B ++ l) = B := by subst hn; exact As h
section
variable {f : Nat → PV} {d d2 d3 d4 i : Nat} {p p2 p3 p4 v : PV}
theorem Ac (h2 : (i == d || i == d2) = false) (h : f i = v) : upd (upd f d2 p2) d p i = v := by
 simp only [Bool.or_eq_false_iff] at h2
 exact em h2.1 (em h2.2 h)
theorem Ad (h2 : (i == d || i == d2 || i == d3 || i == d4) = false) (h : f i = v) : upd (upd (upd (upd f d4 p4) d3 p3) d2 p2) d p i = v := by
 simp only [Bool.or_eq_false_iff] at h2
 exact em h2.1.1.1 (em h2.1.1.2 (em h2.1.2 (em h2.2 h)))
end
section
variable {K : D → Prop} {k : IntKind} {a b : Int} {x y : ByteArray}
theorem Ad6 (h : K (.bool (!decide (a = b)))) : EO .neq K (.int k a) (.int k b) := by
 have e : (a != b) = !decide (a = b) := by rw [Bool.eq_iff_iff]; simp
 exact ⟨rfl, by rw [e]; exact h⟩
theorem B6 (h : K (.bool (decide (b < a)))) : EO .gtr K (.int k a) (.int k b) := ⟨rfl, h⟩
theorem E5 (h : K (.bool (decide (b ≤ a)))) : EO .geq K (.int k a) (.int k b) := ⟨rfl, h⟩
theorem XU (h : K (.bool (!decide (x = y)))) : EO .neq K (.str x) (.str y) := by
 show K (.bool (!(x.toList == y.toList))); rw [toList_eq]; exact h
end
section
variable {st B B' l : List Content} {c c' c0 : Content}
theorem BU1 {x : Nat} : (B.set x c).set x c' = B.set x c' := by simp
theorem Ci8 {x : Nat} (h : st[x]? = some c) (n : Nat) : ¬ x = st.length + n := by have := (List.getElem?_eq_some_iff.1 h).1; omega
theorem Ci3 {x : Nat} (h : st[x]? = some c) (n : Nat) : ¬ st.length + n = x := by have := (List.getElem?_eq_some_iff.1 h).1; omega
theorem Cj5 {x : Nat} (h : st[x]? = some c) : ¬ x = st.length := by have := (List.getElem?_eq_some_iff.1 h).1; omega
theorem Ci1 {x : Nat} (h : st[x]? = some c) : ¬ st.length = x := by have := (List.getElem?_eq_some_iff.1 h).1; omega
theorem Qi {α : Type} {row cells : α → List D} {n : Nat} {l : List α} (hc : ∀ a, row a = cells a) (hz : ∀ a, (cells a).length = n := by intro _; rfl) : ∀ r, r ∈ l.map row → r.length = n := fun r hm => by
 obtain ⟨a, _, rfl⟩ := List.mem_map.1 hm; rw [hc]; exact hz a
theorem YJ {s : XS} {n : Nat} {xs : List XA} {rows rows' : List (List D)} (h : rows = rows') (k : C2 s n xs = some rows') : C2 s n xs = some rows := by rw [h]; exact k
end
section
variable {P : Program} {base : Nat} {acc : Acc} {r : List XI} {K : Acc → XS → Prop} {f : Nat → PV} {st : List Content} {d nm : Nat} {ρ : Type} {res : ρ}
theorem Ag {o : XOp} {R : List Nat} (hp : Dp o = true) (hR : ER o ⟨f, st⟩ = R) (h : Bf P .seq [⟨some d, o, none, 0⟩] (fun s => DM P base r (acc ++ [([], R)]) K s) ⟨f, st⟩) : DM P base (⟨some d, o, none, nm⟩ :: r) acc K ⟨f, st⟩ := by
 refine BH4 hp hR ?_
 have h' : xop P o (fun v st' => DM P base r (acc ++ [([], R)]) K ⟨upd f d v, st'⟩) ⟨f, st⟩ := h
 rw [Cb3 (s := ⟨f, st⟩) (s2 := ⟨f, st⟩) hp (fun _ _ => rfl) (fun _ _ => rfl)] at h'
 exact h'
theorem CC {o : XOp} {ds : Option Nat} {t : Nat} {want c : Bool} {A B : ρ} (ht : f t = .d (.bool c)) (hr : (bif c then A else B) = res) (h1 : A = res → DM P base (⟨ds, o, some (t, want), nm⟩ :: r) acc K ⟨upd f t (.d (.bool true)), st⟩) (h2 : B = res → DM P base (⟨ds, o, some (t, want), nm⟩ :: r) acc K ⟨upd f t (.d (.bool false)), st⟩) :
   DM P base (⟨ds, o, some (t, want), nm⟩ :: r) acc K ⟨f, st⟩ := by
 cases c
 · rw [← AH4 ht]; exact h2 hr
 · rw [← AH4 ht]; exact h1 hr
theorem BM {x : XA} {a : Bool} {size b off : Nat} (h : ev ⟨f, st⟩ x = .ptr b off) : ER (.load a size x) ⟨f, st⟩ = [b] := by simp only [ER, h]
theorem TU {o : XOp} {x : XA} {dd : D} (h : ev ⟨f, st⟩ x = .d dd) (ho : ∀ s, ER o s = SV (ev s x) := by intro _; rfl) : ER o ⟨f, st⟩ = [] := by rw [ho, h]; rfl
variable {l : List Content} {n0 k : Nat}
end
section
variable {P : Program} {m : Mode} {a b : List XI} {K : XS → Prop} {s : XS}
theorem Bh (h : Bf P m a (fun s => Bf P m b K s) s) : Bf P m (a ++ b) K s := by
 cases m with
 | seq => exact go a s h
 | pre base => exact go2 a s h
where
 go : ∀ (a : List XI) (s : XS), FA P a (fun s => FA P b K s) s → FA P (a ++ b) K s
   | [], s, h => h
   | i :: r, s, h => by
     simp only [FA, List.cons_append] at h ⊢
     split at h
     · rename_i hg
       exact Au6 h fun v st hk => go r _ hk
     · rename_i t want hg
       split at h
       · rename_i b hb
         try simp only [hb]
         exact ⟨fun e => Au6 (h.1 e) fun v st hk => go r _ hk, fun e => go r _ (h.2 e)⟩
       · rename_i hb
         try simp only [hb]
         exact go r _ h
       · exact h.elim
 go2 {base : Nat} : ∀ (a : List XI) (s : XS), F2 P base a (fun s => F2 P base b K s) s → F2 P base (a ++ b) K s
   | [], s, h => h
   | i :: r, s, h => by
     simp only [F2, List.cons_append] at h ⊢
     split at h
     · rename_i hg
       exact Jo h fun v U R hk => go2 r _ hk
     · rename_i t want hg
       split at h
       · rename_i b hb
         try simp only [hb]
         exact ⟨fun e => Jo (h.1 e) fun v U R hk => go2 r _ hk, fun e => go2 r _ (h.2 e)⟩
       · rename_i hb
         try simp only [hb]
         exact go2 r _ h
       · exact h.elim
theorem Ba (I : (Nat → PV) → List Content → Prop) (h1 : Bf P m a (fun s => I s.r s.st) s) (h2 : ∀ f st, I f st → Bf P m b K ⟨f, st⟩) : Bf P m (a ++ b) K s := by
 refine Bh ?_
 cases m with
 | seq => exact R7 (fun s h => h2 _ _ h) a s h1
 | pre base => exact R8 (fun s h => h2 _ _ h) a s h1
end
theorem BO0 {f : FuncId} {n : Nat} {ps qs : List PV} (h : (AP.belowL n ps && AP.belowL n qs) = true) : cutV n (.fn f ps qs) = .fn f ps qs := by
 simp only [Bool.and_eq_true] at h
 simp [cutV, AP, h.1, h.2]
def TW (ys : List ByteArray) : Option Bool := if ys.length * 16 ≤ 140737488351232 then some (decide ys.Nodup) else none
section
variable {P : Program} {n : Nat} {f : Nat → PV} {B l : List Content} {n0 k : Nat}
theorem BU9 (i : Nat) (rows : List (List D)) (e size : Nat) (hn : B.length = n0) (hk : l.length = k) (h : f i = .ex rows) (hs : (P.info? e).map (·.size) = some size) (hz : ∀ row, row ∈ rows → row.length = size) : Ghost P n ⟨f, B ++ l⟩ ⟨upd f i (.own (n0 + k) 0), B ++ (l ++ [.row e 0 rows])⟩ := by
 have := Ghost.adopt (P := P) (n := n) ⟨f, B ++ l⟩ i rows e size h hs hz
 subst hn; subst hk
 simpa [List.append_assoc] using this
theorem Gu (i off : Nat) (rows : List (List D)) (e size : Nat) {cells : List PV} (hn : B.length = n0) (hk : l.length = k) (hx : l[i]? = some (.box cells)) (hc : cells[off]? = some (.ex rows)) (hs : (P.info? e).map (·.size) = some size) (hz : ∀ row, row ∈ rows → row.length = size) : Ghost P n ⟨f, B ++ l⟩ ⟨f, B ++ (l.set i (.box (cells.set off (.own (n0 + k) 0))) ++ [.row e 0 rows])⟩ := by
 have := Ghost.adoptB (P := P) (n := n) ⟨f, B ++ l⟩ (B.length + i) off rows e size (cells := cells) ((Ce6 rfl i).trans hx) hc hs hz
 subst hn; subst hk
 rw [BD rfl] at this
 simpa [List.append_assoc] using this
end
section
variable {P : Program} {r : List XI} {K : XS → Prop} {f : Nat → PV} {st l : List Content} {d nm : Nat} {n0 k : Nat} {g : FuncId} {args : List XA} {vs : List PV} {e : TypeId} {rows : List (List D)}
variable {acc : Acc} {KA : Acc → XS → Prop}
end
theorem BS3 {x y : ByteArray} (h : x.data.toList = y.data.toList) : x = y := by
 have : x.data = y.data := Array.ext' h
 cases x; cases y; simp_all
section
variable {P : Program} {n : Nat} {f : Nat → PV} {B l : List Content} {n0 : Nat}
end
theorem Ak {f : Nat → PV} {i : Nat} {v : PV} {D0 D1 D2 D3 D4 D5 D6 D7 : Nat} {P0 P1 P2 P3 P4 P5 P6 P7 : PV} (h2 : ((i == D0 || i == D1 || i == D2 || i == D3) || (i == D4 || i == D5 || i == D6 || i == D7)) = false) (h : f i = v) : upd (upd (upd (upd (upd (upd (upd (upd f D7 P7) D6 P6) D5 P5) D4 P4) D3 P3) D2 P2) D1 P1) D0 P0 i = v := Ad (Bool.or_eq_false_iff.1 h2).1 (Ad (Bool.or_eq_false_iff.1 h2).2 h)
theorem Ai {f : Nat → PV} {i : Nat} {v : PV} {D0 D1 D2 D3 D4 D5 D6 D7 D8 D9 D10 D11 D12 D13 D14 D15 : Nat} {P0 P1 P2 P3 P4 P5 P6 P7 P8 P9 P10 P11 P12 P13 P14 P15 : PV} (h2 : (((i == D0 || i == D1 || i == D2 || i == D3) || (i == D4 || i == D5 || i == D6 || i == D7)) || ((i == D8 || i == D9 || i == D10 || i == D11) || (i == D12 || i == D13 || i == D14 || i == D15))) = false) (h : f i = v) : upd (upd (upd (upd (upd (upd (upd (upd (upd (upd (upd (upd (upd (upd (upd (upd f D15 P15) D14 P14) D13 P13) D12 P12) D11 P11) D10 P10) D9 P9) D8 P8) D7 P7) D6 P6) D5 P5) D4 P4) D3 P3) D2 P2) D1 P1) D0 P0 i = v := Ak (Bool.or_eq_false_iff.1 h2).1 (Ak (Bool.or_eq_false_iff.1 h2).2 h)
theorem gx {st l : List Content} {c : Content} (i : Nat) (h : l[i]? = some c) : (st ++ l)[st.length + i]? = some c := (Ce6 rfl i).trans h
end Go.Ax
