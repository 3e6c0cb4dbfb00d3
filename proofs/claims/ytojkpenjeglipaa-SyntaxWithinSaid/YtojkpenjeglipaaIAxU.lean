import Derived.Test.YtojkpenjeglipaaIAxT
set_option linter.unusedVariables false
set_option linter.unusedSimpArgs false
namespace Go.Ax
section
variable {P : Program} {s : XS}
theorem UB {o : XOp} {K K' : PV → List Content → Prop} (hk : xop P o K s) (hi : ∀ v st, K v st → K' v st) : xop P o K' s := by
 by_cases hp : Dk o = true
 · rw [AK6 (s := s) (s2 := s) hp (fun _ _ => rfl) (fun _ _ => rfl)] at hk ⊢
   obtain ⟨v, h1, h2⟩ := AN0 hp hk
   exact h2 (fun v => K' v s.st) (hi _ _ h1)
 · cases o with
   | box x => exact ⟨hk.1, hi _ _ hk.2⟩
   | alloc z => exact hi _ _ hk
   | store size x y =>
     simp only [xop] at hk ⊢
     split at hk
     · split at hk
       · exact ⟨hk.1, hk.2.1, hk.2.2.1, hi _ _ hk.2.2.2⟩
       · exact hk.elim
     · exact hk.elim
   | append e size bytes x y =>
     simp only [xop] at hk ⊢
     split at hk
     · rename_i ys hys
       try simp only [hys]
       obtain ⟨h1, hk⟩ := hk
       refine ⟨h1, ?_⟩
       split at hk
       · exact ⟨hk.1, hk.2.1, hi _ _ hk.2.2⟩
       · split at hk
         · exact ⟨hk.1, hk.2.1, hk.2.2.1, hi _ _ hk.2.2.2⟩
         · exact hk.elim
       · exact hk.elim
     · exact hk.elim
   | eqNil neg x =>
     simp only [xop] at hk ⊢
     split at hk
     · exact ⟨fun e => hi _ _ (hk.1 e), hi _ _ hk.2⟩
     · exact hk.elim
   | call f args => exact Aw.mono hk hi
   | dyn x args =>
     simp only [xop] at hk ⊢
     split at hk
     · exact Aw.mono hk hi
     · exact hk.elim
   | mkMap k e => exact hi _ _ hk
   | mapSet k e m x y =>
     simp only [xop] at hk ⊢
     split at hk
     · split at hk
       · exact ⟨hk.1, hk.2.1, hk.2.2.1, hk.2.2.2.1, hi _ _ hk.2.2.2.2⟩
       · exact hk.elim
     · exact hk.elim
   | _ => simp [Dk] at hp
theorem Lb {K K' : XS → Prop} (hi : ∀ s, K s → K' s) : ∀ (l : List XI) (s : XS), ER P l K s → ER P l K' s
 | [], s, h => hi s h
 | i :: r, s, h => by
   simp only [ER] at h ⊢
   split at h
   · rename_i hg
     exact UB h fun v st hk => Lb hi r _ hk
   · rename_i t want hg
     split at h
     · rename_i b hb
       try simp only [hb]
       exact ⟨fun e => UB (h.1 e) fun v st hk => Lb hi r _ hk, fun e => Lb hi r _ (h.2 e)⟩
     · rename_i hb
       try simp only [hb]
       exact Lb hi r _ h
     · exact h.elim
theorem K5 {base : Nat} {K K' : XS → Prop} (hi : ∀ s, K s → K' s) : ∀ (l : List XI) (s : XS), FD P base l K s → FD P base l K' s
 | [], s, h => hi s h
 | i :: r, s, h => by
   simp only [FD] at h ⊢
   split at h
   · rename_i hg
     exact Ic h fun v U R hk => K5 hi r _ hk
   · rename_i t want hg
     split at h
     · rename_i b hb
       try simp only [hb]
       exact ⟨fun e => Ic (h.1 e) fun v U R hk => K5 hi r _ hk, fun e => K5 hi r _ (h.2 e)⟩
     · rename_i hb
       try simp only [hb]
       exact K5 hi r _ h
     · exact h.elim
theorem LI {anc : List (List Nat)} {base : Nat} {K K' : XS → Prop} (hi : ∀ s, K s → K' s) : ∀ (l : List XI) (k : Nat) (acc : List (List Nat × List Nat)) (s : XS), Ja P anc base k l acc K s → Ja P anc base k l acc K' s
 | [], k, acc, s, h => hi s h
 | i :: r, k, acc, s, h => by
   simp only [Ja] at h ⊢
   split at h
   · rename_i hg
     exact Ic h fun v U R hk => ⟨hk.1, LI hi r _ _ _ hk.2⟩
   · rename_i t want hg
     split at h
     · rename_i b hb
       try simp only [hb]
       exact ⟨fun e => Ic (h.1 e) fun v U R hk => ⟨hk.1, LI hi r _ _ _ hk.2⟩, fun e => ⟨(h.2 e).1, LI hi r _ _ _ (h.2 e).2⟩⟩
     · rename_i hb
       try simp only [hb]
       exact ⟨h.1, LI hi r _ _ _ h.2⟩
     · exact h.elim
theorem Iw {n : Nat} : ∀ (c : XC) {Q Q' : XE → XS → Prop} (hi : ∀ e s, Q e s → Q' e s) (s : XS), BL P n c Q s → BL P n c Q' s
 | .skip, Q, Q', hi, s, h => hi _ _ h
 | .region ops, Q, Q', hi, s, h => Lb (fun s h => hi _ _ h) ops s h
 | .regionD ops anc nf, Q, Q', hi, s, h => LI (fun s h => hi _ _ h) ops _ _ _ h
 | .regionS ops nf, Q, Q', hi, s, h => K5 (fun s h => hi _ _ h) ops _ h
 | .seq a b, Q, Q', hi, s, h => Iw a (fun e s h => by
     cases e with
     | normal => exact Iw b hi s h
     | exit id => exact hi _ _ h
     | ret => exact hi _ _ h) s h
 | .cond c a b, Q, Q', hi, s, h => by
     simp only [BL] at h ⊢
     split at h
     · exact ⟨fun e => Iw a hi s (h.1 e), fun e => Iw b hi s (h.2 e)⟩
     · exact h.elim
 | .block id b, Q, Q', hi, s, h => Iw b (fun e s h => by
     cases e with
     | normal => exact hi _ _ h
     | exit id' => simp only [B6] at h ⊢; split at h <;> simp_all
     | ret => exact hi _ _ h) s h
 | .loop b, Q, Q', hi, s, h => by
     obtain ⟨I, h0, h1⟩ := h
     refine ⟨I, h0, fun m s hm => Iw b (fun e s h => ?_) s (h1 m s hm)⟩
     cases e with
     | normal => exact h
     | exit id => exact hi _ _ h
     | ret => exact hi _ _ h
 | .exit id, Q, Q', hi, s, h => hi _ _ h
 | .ret, Q, Q', hi, s, h => hi _ _ h
theorem BD {n : Nat} {Q : XE → XS → Prop} {a b : XC} (I : (Nat → PV) → List Content → Prop) (h1 : BL P n a (Fz (fun s => I s.r s.st) Q) s) (h2 : ∀ f st, I f st → BL P n b Q ⟨f, st⟩) : BL P n (.seq a b) Q s :=
 Iw a (fun e s h => by
   cases e with
   | normal => exact h2 _ _ h
   | exit id => exact h
   | ret => exact h) s h1
end
def Dh {α : Type} (l : List α) (i : Int) : Option α := if 0 ≤ i then l[i.toNat]? else none
def Al5 (b : ByteArray) (i : Int) : Option Int := if 0 ≤ i ∧ i < b.size then some (Sb b i.toNat) else none
def UJ {α : Type} (l : List α) (lo hi : Int) : Option (List α) := if 0 ≤ lo ∧ lo ≤ hi ∧ hi ≤ l.length then some ((l.take hi.toNat).drop lo.toNat) else none
def Gq {α : Type} (bytes : Nat) (l ys : List α) : Option (List α) := if (l.length + ys.length) * bytes ≤ 140737488355328 then some (l ++ ys) else none
def Xl (ks : List ByteArray) (b : ByteArray) : Option (List ByteArray) := if b.size ≤ 9223372036854775807 ∧ ks.length < 9223372036854775807 then some (ks ++ [b]) else none
def VX (p : Bool) : Option Unit := if p then some () else none
def rI (k : IntKind) (n : Int) : List D := [.int k n]
def rS (s : ByteArray) : List D := [.str s]
def DW (b : ByteArray) : List Int := b.data.toList.map fun u => (u.toNat : Int)
theorem Ah3 (b : ByteArray) : Gl b = List.map (rI .u8) (DW b) := by simp [Gl, DW, rI]
def ltS (a b : ByteArray) : Bool := Op.bytesLess a.toList b.toList
theorem bind_some {α β : Type} {o : Option α} {k : α → Option β} {r : β} (h : o.bind k = some r) : ∃ x, o = some x ∧ k x = some r := by
 cases o with
 | none => cases h
 | some x => exact ⟨x, rfl, h⟩
section
variable {P : Program} {m : Mode} {r : List XI} {K : XS → Prop} {f : Nat → PV} {st : List Content} {d nm : Nat} {n : Nat} {Q : XE → XS → Prop} {s : XS} {ρ : Type} {res : ρ}
theorem AC {x : XA} {a b : XC} {c : Bool} {A B : ρ} (hc : ev s x = .d (.bool c)) (hr : (bif c then A else B) = res) (h1 : A = res → BL P n a Q s) (h2 : B = res → BL P n b Q s) : BL P n (.cond x a b) Q s := by
 cases c
 · exact EP hc (h2 hr)
 · exact Dz hc (h1 hr)
theorem Au {o : XOp} {ds : Option Nat} {t : Nat} {want c : Bool} {A B : ρ} (ht : f t = .d (.bool c)) (hr : (bif c then A else B) = res) (h1 : A = res → Bf P m (⟨ds, o, some (t, want), nm⟩ :: r) K ⟨upd f t (.d (.bool true)), st⟩) (h2 : B = res → Bf P m (⟨ds, o, some (t, want), nm⟩ :: r) K ⟨upd f t (.d (.bool false)), st⟩) :
   Bf P m (⟨ds, o, some (t, want), nm⟩ :: r) K ⟨f, st⟩ := by
 cases c
 · rw [← SZ ht]; exact h2 hr
 · rw [← SZ ht]; exact h1 hr
theorem Bt {α β : Type} {size : Nat} {x i : XA} {row cells : α → List D} {l : List α} {k : IntKind} {j : Int} {ko : α → Option β} {v : β} (hx : A6 st (ev ⟨f, st⟩ x) = some (l.map row)) (hi : ev ⟨f, st⟩ i = .d (.int k j)) (hr : (Dh l j).bind ko = some v) (hc : ∀ a, row a = cells a) (hz : ∀ a, (cells a).length = size)
   (h : ∀ a, ko a = some v → Bf P m r K ⟨upd f d (.dp (cells a)), st⟩) : Bf P m (⟨some d, .indexAddr size x i, none, nm⟩ :: r) K ⟨f, st⟩ := by
 obtain ⟨a, ha, hr⟩ := bind_some hr
 unfold Dh at ha
 split at ha
 · rename_i h0
   have hlt := (List.getElem?_eq_some_iff.1 ha).1
   refine AR4 hx hi h0 (by simp; omega) (row := cells a) ?_ (hz a) (h a hr)
   rw [List.getElem?_map, ha, ← hc]; rfl
 · cases ha
theorem Ah1 {β : Type} {x i : XA} {b : ByteArray} {k : IntKind} {j : Int} {ko : Int → Option β} {v : β} (hx : ev ⟨f, st⟩ x = .d (.str b)) (hi : ev ⟨f, st⟩ i = .d (.int k j)) (hr : (Al5 b j).bind ko = some v) (h : ∀ a, ko a = some v → Bf P m r K ⟨upd f d (.d (.int .u8 a)), st⟩) : Bf P m (⟨some d, .indexStr x i, none, nm⟩ :: r) K ⟨f, st⟩ := by
 obtain ⟨a, ha, hr⟩ := bind_some hr
 unfold Al5 at ha
 split at ha
 · rename_i h0
   cases ha
   exact AQ2 hx hi h0.1 h0.2 (h _ hr)
 · cases ha
theorem Bh {α : Type} {x : XA} {row : α → List D} {l : List α} (hx : A6 st (ev ⟨f, st⟩ x) = some (l.map row)) (h : Bf P m r K ⟨upd f d (.d (.int .i64 l.length)), st⟩) : Bf P m (⟨some d, .lenR x, none, nm⟩ :: r) K ⟨f, st⟩ :=
 AP3 hx (by rw [List.length_map]; exact h)
theorem T5 {α β : Type} {size : Nat} {x : XA} {lo hi : Option XA} {row cells : α → List D} {l : List α} {i j : Int} {ko : List α → Option β} {v : β} (hx : A6 st (ev ⟨f, st⟩ x) = some (l.map row)) (hc : ∀ a, row a = cells a) (hz : ∀ a, (cells a).length = size) (hlo : ∀ K : Int → Prop, K i → bnd ⟨f, st⟩ 0 K lo) (hhi : ∀ K : Int → Prop, K j → bnd ⟨f, st⟩ l.length K hi) (hr : (UJ l i j).bind ko = some v)
   (h : ∀ a, ko a = some v → Bf P m r K ⟨upd f d (.d (.sl (a.map row))), st⟩) : Bf P m (⟨some d, .sliceR size x lo hi none, none, nm⟩ :: r) K ⟨f, st⟩ := by
 obtain ⟨a, ha, hr⟩ := bind_some hr
 unfold UJ at ha
 split at ha
 · rename_i h0
   cases ha
   refine AG3 hx (fun row' hm => ?_) (hlo _ ?_)
   · obtain ⟨a, _, rfl⟩ := List.mem_map.1 hm; rw [hc]; exact hz a
   · rw [List.length_map]
     refine hhi _ ⟨h0.1, h0.2.1, by exact h0.2.2, ?_⟩
     have := h _ hr
     rw [List.map_drop, List.map_take] at this
     exact this
 · cases ha
variable {l : List Content} {n0 k : Nat}
theorem AL1 {α β : Type} {e size bytes : Nat} {x y : XA} {row cells : α → List D} {xs ys : List α} {ko : List α → Option β} {v : β} (hn : st.length = n0) (hk : l.length = k) (hy : A6 (st ++ l) (ev ⟨f, st ++ l⟩ y) = some (ys.map row)) (hc : ∀ a, row a = cells a) (hz : ∀ a, (cells a).length = size) (hx : ev ⟨f, st ++ l⟩ x = .ex (xs.map row)) (hr : (Gq bytes xs ys).bind ko = some v)
   (h : ∀ a, ko a = some v → Bf P .seq r K ⟨upd f d (.own (n0 + k) 1), st ++ (l ++ [.row e 1 (a.map row)])⟩) : Bf P .seq (⟨some d, .append e size bytes x y, none, nm⟩ :: r) K ⟨f, st ++ l⟩ := by
 obtain ⟨a, ha, hr⟩ := bind_some hr
 unfold Gq at ha
 split at ha
 · rename_i h0
   cases ha
   have h1 : ∀ zs : List α, ∀ row', row' ∈ zs.map row → row'.length = size := fun zs row' hm => by obtain ⟨a, _, rfl⟩ := List.mem_map.1 hm; rw [hc]; exact hz a
   refine AF4 hn hk hy (h1 ys) hx (h1 xs) (by simpa using h0) ?_
   have := h _ hr
   rw [List.map_append] at this
   exact this
 · cases ha
theorem Hg {α β : Type} {e size bytes : Nat} {x y : XA} {row cells : α → List D} {xs ys : List α} {t ver : Nat} {ko : List α → Option β} {v : β} (hy : A6 st (ev ⟨f, st⟩ y) = some (ys.map row)) (hc : ∀ a, row a = cells a) (hz : ∀ a, (cells a).length = size) (hx : ev ⟨f, st⟩ x = .own t ver) (ht : st[t]? = some (.row e ver (xs.map row))) {st' : List α → List Content} (hst : ∀ a : List α, st.set t (.row e (ver + 1) (a.map row)) = st' a) (hr : (Gq bytes xs ys).bind ko = some v)
   (h : ∀ a, ko a = some v → Bf P m r K ⟨upd f d (.own t (ver + 1)), st' a⟩) : Bf P m (⟨some d, .append e size bytes x y, none, nm⟩ :: r) K ⟨f, st⟩ := by
 obtain ⟨a, ha, hr⟩ := bind_some hr
 unfold Gq at ha
 split at ha
 · rename_i h0
   cases ha
   have h1 : ∀ zs : List α, ∀ row', row' ∈ zs.map row → row'.length = size := fun zs row' hm => by obtain ⟨a, _, rfl⟩ := List.mem_map.1 hm; rw [hc]; exact hz a
   refine AP1 hy (h1 ys) hx ht (by simpa using h0) (st' := st' (xs ++ ys)) ?_ (h _ hr)
   rw [← hst, List.map_append]
 · cases ha
theorem Ru {β : Type} {kt e : TypeId} {mm x y : XA} {t : Nat} {b : ByteArray} {w : Bool} {ks : List ByteArray} {ko : List ByteArray → Option β} {v : β} (hm : ev ⟨f, st⟩ mm = .map t) (hx : ev ⟨f, st⟩ x = .d (.str b)) (hy : ev ⟨f, st⟩ y = .d (.bool w)) (ht : st[t]? = some (.map kt e ks))
   {st' : List ByteArray → List Content} (hst : ∀ ks, st.set t (.map kt e ks) = st' ks) (hr : (Xl ks b).bind ko = some v) (h : ∀ a, ko a = some v → Bf P m r K ⟨f, st' a⟩) : Bf P m (⟨none, .mapSet kt e mm x y, none, nm⟩ :: r) K ⟨f, st⟩ := by
 obtain ⟨a, ha, hr⟩ := bind_some hr
 unfold Xl at ha
 split at ha
 · rename_i h0
   cases ha
   exact AK3 hm hx hy ht h0.1 h0.2 (hst _) (h _ hr)
 · cases ha
theorem At9 {x : XA} {b : ByteArray} (hx : ev ⟨f, st⟩ x = .d (.str b)) (h : Bf P m r K ⟨upd f d (.d (.sl ((DW b).map (rI .u8)))), st⟩) : Bf P m (⟨some d, .toBytes x, none, nm⟩ :: r) K ⟨f, st⟩ :=
 AC9 hx (by rw [Ah3]; exact h)
theorem bd0 {dflt : Int} {s : XS} : ∀ K : Int → Prop, K dflt → bnd s dflt K none := fun K h => h
theorem bd1 {dflt i : Int} {a : XA} {k : IntKind} {s : XS} (ha : ev s a = .d (.int k i)) : ∀ K : Int → Prop, K i → bnd s dflt K (some a) := fun K h => AN7 ha h
end
section
variable {K : D → Prop} {k : IntKind} {a b : Int} {β : Type}
theorem Ax1 {ko : Unit → Option β} {v : β} (hr : (VX (decide (b ≠ 0))).bind ko = some v) (h : ko () = some v → K (.int k (a.tmod b))) : EB .rem K (.int k a) (.int k b) := by
 obtain ⟨x, hx, hr⟩ := bind_some hr
 unfold VX at hx
 split at hx
 · rename_i hb; exact AR5 (by simpa using hb) (h hr)
 · cases hx
variable {x y : ByteArray}
theorem AQ4 (h : K (.bool (ltS x y))) : EB .lss K (.str x) (.str y) := h
end
theorem Ca {P : Program} {n : Nat} {b : XC} {Q : XE → XS → Prop} {s : XS} (I : Nat → (Nat → PV) → List Content → Prop) (m : Nat) {s0 : XS} (hg : Ghost P n s s0) (h0 : I m s0.r s0.st) (h : ∀ m f st, I m f st → BL P n b (Fz (fun s1 => ∃ m' s', m' < m ∧ Ghost P n s1 s' ∧ I m' s'.r s'.st) Q) ⟨f, st⟩) : BL P n (.loop b) Q s :=
 ⟨fun m s => I m s.r s.st, ⟨m, s0, hg, h0⟩, fun m s hi => h m s.r s.st hi⟩
theorem EO {B l0 l1 : List Content} {k n0 : Nat} (hB : WF B) (hn : B.length = n0) (hl : l0.length = k) (h0 : l0.map (Ka (n0 + k)) = l0) : Ko (n0 + k) (B ++ (l0 ++ l1)) = B ++ l0 := by
 subst hn; subst hl
 have e : (B ++ (l0 ++ l1)).take (B.length + l0.length) = B ++ l0 := by
   rw [← List.append_assoc, ← List.length_append, List.take_left]
 have e2 := Xu hB (n := B.length + l0.length) (by omega)
 unfold Ko at e2 ⊢
 rw [List.take_of_length_le (by omega)] at e2
 rw [e, List.map_append, h0, e2]
theorem WF.setBox {st : List Content} {x : Nat} {cells : List PV} (h : WF st) (hc : AJ.belowL st.length cells = true) : WF (st.set x (.box cells)) := fun cs hm => by
 rw [List.length_set]
 rcases List.mem_or_eq_of_mem_set hm with hm | hm
 · exact h cs hm
 · cases hm; exact hc
theorem WF.setMap {st : List Content} {x k e : Nat} {ks : List ByteArray} (h : WF st) : WF (st.set x (.map k e ks)) := fun cs hm => by
 rw [List.length_set]
 rcases List.mem_or_eq_of_mem_set hm with hm | hm
 · exact h cs hm
 · cases hm
theorem Af8 {B l : List Content} {n : Nat} (h : WF B) (hn : B.length = n) : Ko n (B ++ l) = B := by subst hn; exact Av h
section
variable {f : Nat → PV} {d d2 d3 d4 i : Nat} {p p2 p3 p4 v : PV}
theorem Ac (h2 : (i == d || i == d2) = false) (h : f i = v) : upd (upd f d2 p2) d p i = v := by
 simp only [Bool.or_eq_false_iff] at h2
 exact em h2.1 (em h2.2 h)
theorem Ad (h2 : (i == d || i == d2 || i == d3 || i == d4) = false) (h : f i = v) : upd (upd (upd (upd f d4 p4) d3 p3) d2 p2) d p i = v := by
 simp only [Bool.or_eq_false_iff] at h2
 exact em h2.1.1.1 (em h2.1.1.2 (em h2.1.2 (em h2.2 h)))
end
section
variable {K : D → Prop} {k : IntKind} {a b : Int} {x y : ByteArray}
theorem Sf (h : K (.bool (!decide (a = b)))) : EB .neq K (.int k a) (.int k b) := by
 have e : (a != b) = !decide (a = b) := by rw [Bool.eq_iff_iff]; simp
 exact ⟨rfl, by rw [e]; exact h⟩
theorem C8 (h : K (.bool (decide (b < a)))) : EB .gtr K (.int k a) (.int k b) := ⟨rfl, h⟩
theorem ET (h : K (.bool (decide (b ≤ a)))) : EB .geq K (.int k a) (.int k b) := ⟨rfl, h⟩
theorem MG (h : K (.bool (!decide (x = y)))) : EB .neq K (.str x) (.str y) := by
 show K (.bool (!(x.toList == y.toList))); rw [toList_eq]; exact h
end
section
variable {st B B' l : List Content} {c c' c0 : Content}
theorem Nn {x : Nat} : (B.set x c).set x c' = B.set x c' := by simp
theorem IN {x y : Nat} (hne : (y == x) = false) (h : B.set x c = B') : (B.set y c').set x c = B'.set y c' := by
 subst h; rw [List.set_comm]; simpa using hne
theorem HB {x : Nat} (h : B[x]? = some c) : B.set x c = B := by
 have := List.getElem?_eq_some_iff.1 h
 obtain ⟨h1, h2⟩ := this
 subst h2
 exact List.set_getElem_self h1
theorem B1 {x y : Nat} (h : (x == y) = false) : (y == x) = false := by
 rw [beq_eq_false_iff_ne] at h ⊢; exact fun e => h e.symm
theorem OS {x : Nat} (h : st[x]? = some c) (n : Nat) : x < st.length + n := by have := (List.getElem?_eq_some_iff.1 h).1; omega
theorem Ym {x : Nat} (h : st[x]? = some c) (n : Nat) : ¬ x = st.length + n := by have := (List.getElem?_eq_some_iff.1 h).1; omega
theorem XF {x : Nat} (h : st[x]? = some c) (n : Nat) : ¬ st.length + n = x := by have := (List.getElem?_eq_some_iff.1 h).1; omega
theorem XK {x : Nat} (h : st[x]? = some c) : ¬ x = st.length := by have := (List.getElem?_eq_some_iff.1 h).1; omega
theorem Za {x : Nat} (h : st[x]? = some c) : ¬ st.length = x := by have := (List.getElem?_eq_some_iff.1 h).1; omega
theorem JH {α : Type} {row cells : α → List D} {n : Nat} {l : List α} (hc : ∀ a, row a = cells a) (hz : ∀ a, (cells a).length = n := by intro _; rfl) : ∀ r, r ∈ l.map row → r.length = n := fun r hm => by
 obtain ⟨a, _, rfl⟩ := List.mem_map.1 hm; rw [hc]; exact hz a
theorem JU {s : XS} {n : Nat} {xs : List XA} {rows rows' : List (List D)} (h : rows = rows') (k : CO s n xs = some rows') : CO s n xs = some rows := by rw [h]; exact k
end
section
variable {P : Program} {base : Nat} {acc : Acc} {r : List XI} {K : Acc → XS → Prop} {f : Nat → PV} {st : List Content} {d nm : Nat} {ρ : Type} {res : ρ}
theorem Ag {o : XOp} {R : List Nat} (hp : Dk o = true) (hR : Fx o ⟨f, st⟩ = R) (h : Bf P .seq [⟨some d, o, none, 0⟩] (fun s => CF P base r (acc ++ [([], R)]) K s) ⟨f, st⟩) : CF P base (⟨some d, o, none, nm⟩ :: r) acc K ⟨f, st⟩ := by
 refine Aw2 hp hR ?_
 have h' : xop P o (fun v st' => CF P base r (acc ++ [([], R)]) K ⟨upd f d v, st'⟩) ⟨f, st⟩ := h
 rw [AK6 (s := ⟨f, st⟩) (s2 := ⟨f, st⟩) hp (fun _ _ => rfl) (fun _ _ => rfl)] at h'
 exact h'
theorem CH {o : XOp} {ds : Option Nat} {t : Nat} {want c : Bool} {A B : ρ} (ht : f t = .d (.bool c)) (hr : (bif c then A else B) = res) (h1 : A = res → CF P base (⟨ds, o, some (t, want), nm⟩ :: r) acc K ⟨upd f t (.d (.bool true)), st⟩) (h2 : B = res → CF P base (⟨ds, o, some (t, want), nm⟩ :: r) acc K ⟨upd f t (.d (.bool false)), st⟩) :
   CF P base (⟨ds, o, some (t, want), nm⟩ :: r) acc K ⟨f, st⟩ := by
 cases c
 · rw [← SZ ht]; exact h2 hr
 · rw [← SZ ht]; exact h1 hr
theorem Bz {x : XA} {a : Bool} {size b off : Nat} (h : ev ⟨f, st⟩ x = .ptr b off) : Fx (.load a size x) ⟨f, st⟩ = [b] := by simp only [Fx, h]
theorem JW {o : XOp} {x : XA} {dd : D} (h : ev ⟨f, st⟩ x = .d dd) (ho : ∀ s, Fx o s = JC (ev s x) := by intro _; rfl) : Fx o ⟨f, st⟩ = [] := by rw [ho, h]; rfl
theorem AL6 {o : XOp} {x : XA} {t ver : Nat} (h : ev ⟨f, st⟩ x = .own t ver) (ho : ∀ s, Fx o s = JC (ev s x) := by intro _; rfl) : Fx o ⟨f, st⟩ = [t] := by rw [ho, h]; rfl
variable {l : List Content} {n0 k : Nat}
theorem AL9 {α β : Type} {e size bytes : Nat} {x y : XA} {row cells : α → List D} {xs ys : List α} {ko : List α → Option β} {v : β} (hn : st.length = n0) (hk : l[k + nm]? = some .fresh) {py : PV} (hpy : ev ⟨f, st ++ l⟩ y = py) (hy : A6 (st ++ l) py = some (ys.map row)) (hc : ∀ a, row a = cells a) (hz : ∀ a, (cells a).length = size) (hx : ev ⟨f, st ++ l⟩ x = .ex (xs.map row)) (hr : (Gq bytes xs ys).bind ko = some v)
   (h : ∀ a, ko a = some v → CF P (n0 + k) r (acc ++ [([n0 + (k + nm)], (n0 + (k + nm)) :: JC py)]) K ⟨upd f d (.own (n0 + (k + nm)) 1), st ++ l.set (k + nm) (.row e 1 (a.map row))⟩) : CF P (n0 + k) (⟨some d, .append e size bytes x y, none, nm⟩ :: r) acc K ⟨f, st ++ l⟩ := by
 obtain ⟨a, ha, hr⟩ := bind_some hr
 unfold Gq at ha
 split at ha
 · rename_i h0
   cases ha
   have h1 : ∀ zs : List α, ∀ row', row' ∈ zs.map row → row'.length = size := fun zs row' hm => by obtain ⟨a, _, rfl⟩ := List.mem_map.1 hm; rw [hc]; exact hz a
   refine AP9 hn hk hpy hy (h1 ys) hx (h1 xs) (by simpa using h0) ?_
   have := h _ hr
   rw [List.map_append] at this
   exact this
 · cases ha
theorem Ay5 {α β : Type} {e size bytes : Nat} {x y : XA} {row cells : α → List D} {xs ys : List α} {t ver : Nat} {ko : List α → Option β} {v : β} {py : PV} (hpy : ev ⟨f, st⟩ y = py) (hy : A6 st py = some (ys.map row)) (hc : ∀ a, row a = cells a) (hz : ∀ a, (cells a).length = size) (hx : ev ⟨f, st⟩ x = .own t ver) (ht : st[t]? = some (.row e ver (xs.map row))) {st' : List α → List Content} (hst : ∀ a : List α, st.set t (.row e (ver + 1) (a.map row)) = st' a) (hr : (Gq bytes xs ys).bind ko = some v)
   (h : ∀ a, ko a = some v → CF P base r (acc ++ [([t], t :: JC py)]) K ⟨upd f d (.own t (ver + 1)), st' a⟩) : CF P base (⟨some d, .append e size bytes x y, none, nm⟩ :: r) acc K ⟨f, st⟩ := by
 obtain ⟨a, ha, hr⟩ := bind_some hr
 unfold Gq at ha
 split at ha
 · rename_i h0
   cases ha
   have h1 : ∀ zs : List α, ∀ row', row' ∈ zs.map row → row'.length = size := fun zs row' hm => by obtain ⟨a, _, rfl⟩ := List.mem_map.1 hm; rw [hc]; exact hz a
   refine AQ6 hpy hy (h1 ys) hx ht (by simpa using h0) (st' := st' (xs ++ ys)) ?_ (h _ hr)
   rw [← hst, List.map_append]
 · cases ha
theorem Ae8 {β : Type} {kt e : TypeId} {mm x y : XA} {t : Nat} {b : ByteArray} {w : Bool} {ks : List ByteArray} {ko : List ByteArray → Option β} {v : β} (hm : ev ⟨f, st⟩ mm = .map t) (hx : ev ⟨f, st⟩ x = .d (.str b)) (hy : ev ⟨f, st⟩ y = .d (.bool w)) (ht : st[t]? = some (.map kt e ks))
   {st' : List ByteArray → List Content} (hst : ∀ ks, st.set t (.map kt e ks) = st' ks) (hr : (Xl ks b).bind ko = some v) (h : ∀ a, ko a = some v → CF P base r (acc ++ [([t], [t])]) K ⟨f, st' a⟩) : CF P base (⟨none, .mapSet kt e mm x y, none, nm⟩ :: r) acc K ⟨f, st⟩ := by
 obtain ⟨a, ha, hr⟩ := bind_some hr
 unfold Xl at ha
 split at ha
 · rename_i h0
   cases ha
   exact AJ0 hm hx hy ht h0.1 h0.2 (hst _) (h _ hr)
 · cases ha
end
section
variable {P : Program} {m : Mode} {a b : List XI} {K : XS → Prop} {s : XS}
theorem Bo (h : Bf P m a (fun s => Bf P m b K s) s) : Bf P m (a ++ b) K s := by
 cases m with
 | seq => exact go a s h
 | pre base => exact go2 a s h
where
 go : ∀ (a : List XI) (s : XS), ER P a (fun s => ER P b K s) s → ER P (a ++ b) K s
   | [], s, h => h
   | i :: r, s, h => by
     simp only [ER, List.cons_append] at h ⊢
     split at h
     · rename_i hg
       exact UB h fun v st hk => go r _ hk
     · rename_i t want hg
       split at h
       · rename_i b hb
         try simp only [hb]
         exact ⟨fun e => UB (h.1 e) fun v st hk => go r _ hk, fun e => go r _ (h.2 e)⟩
       · rename_i hb
         try simp only [hb]
         exact go r _ h
       · exact h.elim
 go2 {base : Nat} : ∀ (a : List XI) (s : XS), FD P base a (fun s => FD P base b K s) s → FD P base (a ++ b) K s
   | [], s, h => h
   | i :: r, s, h => by
     simp only [FD, List.cons_append] at h ⊢
     split at h
     · rename_i hg
       exact Ic h fun v U R hk => go2 r _ hk
     · rename_i t want hg
       split at h
       · rename_i b hb
         try simp only [hb]
         exact ⟨fun e => Ic (h.1 e) fun v U R hk => go2 r _ hk, fun e => go2 r _ (h.2 e)⟩
       · rename_i hb
         try simp only [hb]
         exact go2 r _ h
       · exact h.elim
theorem Bb (I : (Nat → PV) → List Content → Prop) (h1 : Bf P m a (fun s => I s.r s.st) s) (h2 : ∀ f st, I f st → Bf P m b K ⟨f, st⟩) : Bf P m (a ++ b) K s := by
 refine Bo ?_
 cases m with
 | seq => exact Lb (fun s h => h2 _ _ h) a s h1
 | pre base => exact K5 (fun s h => h2 _ _ h) a s h1
end
theorem IL {x y : Nat} (h : (x == y) = false) : ¬ x = y := by rwa [beq_eq_false_iff_ne] at h
theorem HK {x y : Nat} (h : (x == y) = false) : ¬ y = x := by rw [beq_eq_false_iff_ne] at h; exact fun e => h e.symm
theorem Ay3 {f : FuncId} {n : Nat} {ps qs : List PV} (h : (AJ.belowL n ps && AJ.belowL n qs) = true) : cutV n (.fn f ps qs) = .fn f ps qs := by
 simp only [Bool.and_eq_true] at h
 simp [cutV, AJ, h.1, h.2]
def M4 (ys : List ByteArray) : Option Bool := if ys.length * 16 ≤ 140737488351232 then some (decide ys.Nodup) else none
section
variable {P : Program} {n : Nat} {f : Nat → PV} {B l : List Content} {n0 k : Nat}
theorem AI9 (i : Nat) (rows : List (List D)) (e size : Nat) (hn : B.length = n0) (hk : l.length = k) (h : f i = .ex rows) (hs : (P.info? e).map (·.size) = some size) (hz : ∀ row, row ∈ rows → row.length = size) : Ghost P n ⟨f, B ++ l⟩ ⟨upd f i (.own (n0 + k) 0), B ++ (l ++ [.row e 0 rows])⟩ := by
 have := Ghost.adopt (P := P) (n := n) ⟨f, B ++ l⟩ i rows e size h hs hz
 subst hn; subst hk
 simpa [List.append_assoc] using this
theorem Gm (i off : Nat) (rows : List (List D)) (e size : Nat) {cells : List PV} (hn : B.length = n0) (hk : l.length = k) (hx : l[i]? = some (.box cells)) (hc : cells[off]? = some (.ex rows)) (hs : (P.info? e).map (·.size) = some size) (hz : ∀ row, row ∈ rows → row.length = size) : Ghost P n ⟨f, B ++ l⟩ ⟨f, B ++ (l.set i (.box (cells.set off (.own (n0 + k) 0))) ++ [.row e 0 rows])⟩ := by
 have := Ghost.adoptB (P := P) (n := n) ⟨f, B ++ l⟩ (B.length + i) off rows e size (cells := cells) ((Am rfl i).trans hx) hc hs hz
 subst hn; subst hk
 rw [Bk rfl] at this
 simpa [List.append_assoc] using this
end
def XU {α : Type} (bytes : Nat) (l : List α) : Option (List α) := if l.length * bytes ≤ 140737488355328 then some l else none
section
variable {P : Program} {r : List XI} {K : XS → Prop} {f : Nat → PV} {st l : List Content} {d nm : Nat} {n0 k : Nat} {g : FuncId} {args : List XA} {vs : List PV} {e : TypeId} {rows : List (List D)}
variable {acc : Acc} {KA : Acc → XS → Prop}
theorem AC4 {R : List Nat} (hn : st.length = n0) (hk : l[k + nm]? = some .fresh) (ha : args.map (fun a => Dt (st ++ l) (ev ⟨f, st ++ l⟩ a)) = vs) (hR : Cv ⟨f, st ++ l⟩ args = R) (h : ∀ S, Aw P g vs S (fun p st' => p = .own S.length 1 ∧ st' = S ++ [.row e 1 rows]))
   (hk2 : CF P (n0 + k) r (acc ++ [([n0 + (k + nm)], ([n0 + (k + nm)] ++ [n0 + (k + nm)] ++ R))]) KA ⟨upd f d (.own (n0 + (k + nm)) 1), st ++ l.set (k + nm) (.row e 1 rows)⟩) : CF P (n0 + k) (⟨some d, .call g args, none, nm⟩ :: r) acc KA ⟨f, st ++ l⟩ := by
 subst hn; subst ha; subst hR
 show G1 P (.call g args) (st.length + k + nm) (fun v U R => CF P (st.length + k) r (acc ++ [(U.map (·.1), R)]) KA ⟨upd f d v, Dn (st ++ l) U⟩) ⟨f, st ++ l⟩
 rw [Nat.add_assoc]
 have hfr : (st ++ l)[st.length + (k + nm)]? = some .fresh := (Am rfl _).trans hk
 refine ⟨.own (st.length + (k + nm)) 1, [(st.length + (k + nm), .row e 1 rows)], [st.length + (k + nm)], fun st2 h2 h3 => (h st2).mono fun p st' hp => .inr ⟨e, 1, rows, (h3 _ (by simp)).trans hfr, hp.1, hp.2, rfl, rfl⟩, ?_⟩
 simp only [Dn, Bk rfl]
 exact hk2
end
def Nv (x : ByteArray) : List ByteArray → List ByteArray
 | [] => [x]
 | y :: l => if x.data.toList < y.data.toList then x :: y :: l else if x = y then y :: l else y :: Nv x l
def QI : List ByteArray → List ByteArray
 | [] => []
 | x :: l => Nv x (QI l)
def K9 (ks : List ByteArray) : Option (List ByteArray) := if ks.length * 16 ≤ 140737488355328 then some (QI ks) else none
theorem Vw {x y : ByteArray} (h : x.data.toList = y.data.toList) : x = y := by
 have : x.data = y.data := Array.ext' h
 cases x; cases y; simp_all
theorem Qt {x s : ByteArray} : ∀ {l : List ByteArray}, s ∈ Nv x l ↔ s = x ∨ s ∈ l
 | [] => by simp [Nv]
 | y :: l => by
   rw [Nv]
   split
   · simp
   · split
     · rename_i h; subst h; simp
     · rw [List.mem_cons, Qt, List.mem_cons]
       constructor
       · rintro (h | h | h)
         · exact .inr (.inl h)
         · exact .inl h
         · exact .inr (.inr h)
       · rintro (h | h | h)
         · exact .inr (.inl h)
         · exact .inl h
         · exact .inr (.inr h)
theorem Rk {s : ByteArray} : ∀ {l : List ByteArray}, s ∈ QI l ↔ s ∈ l
 | [] => by simp [QI]
 | x :: l => by rw [QI, Qt, Rk, List.mem_cons]
theorem Mu {x : ByteArray} : ∀ {l : List ByteArray}, He l → He (Nv x l)
 | [], _ => by simp [Nv, He]
 | y :: l, h => by
   have h' := h
   unfold He at h'
   rw [List.pairwise_cons] at h'
   rw [Nv]
   split
   · rename_i hlt
     unfold He
     rw [List.pairwise_cons]
     refine ⟨fun z hz => ?_, h⟩
     rcases List.mem_cons.1 hz with hz | hz
     · subst hz; exact hlt
     · exact List.lt_trans hlt (h'.1 z hz)
   · split
     · exact h
     · rename_i h1 h2
       unfold He
       rw [List.pairwise_cons]
       refine ⟨fun z hz => ?_, Mu h'.2⟩
       rcases Qt.1 hz with hz | hz
       · subst hz
         rcases Decidable.em (y.data.toList < z.data.toList) with h3 | h3
         · exact h3
         · exact absurd (Vw (List.le_antisymm (List.not_lt.1 h3) (List.not_lt.1 h1))) (by simpa using h2)
       · exact h'.1 z hz
theorem K3 : ∀ l : List ByteArray, He (QI l)
 | [] => by simp [QI, He]
 | x :: l => Mu (K3 l)
theorem rising_ext : ∀ {a b : List ByteArray}, He a → He b → (∀ s, s ∈ a ↔ s ∈ b) → a = b
 | [], [], _, _, _ => rfl
 | [], y :: b, _, _, h => by have := (h y).2 (by simp); cases this
 | x :: a, [], _, _, h => by have := (h x).1 (by simp); cases this
 | x :: a, y :: b, ha, hb, h => by
   have ha' := ha; have hb' := hb
   unfold He at ha' hb'
   rw [List.pairwise_cons] at ha' hb'
   have hxy : x = y := by
     rcases List.mem_cons.1 ((h x).1 (by simp)) with e | e
     · exact e
     · rcases List.mem_cons.1 ((h y).2 (by simp)) with e2 | e2
       · exact e2.symm
       · exact absurd (hb'.1 x e) (List.lt_asymm (ha'.1 y e2))
   subst hxy
   rw [rising_ext ha'.2 hb'.2 fun s => ?_]
   have hs := h s
   rw [List.mem_cons, List.mem_cons] at hs
   constructor
   · intro hm
     rcases hs.1 (.inr hm) with e | e
     · subst e; exact absurd (ha'.1 s hm) (List.lt_irrefl _)
     · exact e
   · intro hm
     rcases hs.2 (.inr hm) with e | e
     · subst e; exact absurd (hb'.1 s hm) (List.lt_irrefl _)
     · exact e
section
variable {P : Program} {n : Nat} {f : Nat → PV} {B l : List Content} {n0 : Nat}
theorem Ax6 (i : Nat) (hn : B.length = n0) : Ghost P n ⟨f, B ++ l⟩ ⟨f, B ++ l.set i .dead⟩ := by
 have := Ghost.kill (P := P) (n := n) ⟨f, B ++ l⟩ (B.length + i)
 rw [Bk rfl] at this
 exact this
theorem Ay9 {B l0 l1 : List Content} {k n0 : Nat} (hB : WF B) (hn : B.length = n0) (hl : l0.length = k) (h0 : l0.map (Ka (n0 + k)) = l0) {st' : List Content} (hst : B ++ l0 = st') : Ko (n0 + k) (B ++ (l0 ++ l1)) = st' := by
 rw [← hst]; exact EO hB hn hl h0
end
theorem Ay7 {R : PV → List Content → Prop} {p q : PV} {a b : List Content} (h1 : p = q) (h2 : a = b) (h : R q b) : R p a := by rw [h1, h2]; exact h
theorem Ak {f : Nat → PV} {i : Nat} {v : PV} {D0 D1 D2 D3 D4 D5 D6 D7 : Nat} {P0 P1 P2 P3 P4 P5 P6 P7 : PV} (h2 : ((i == D0 || i == D1 || i == D2 || i == D3) || (i == D4 || i == D5 || i == D6 || i == D7)) = false) (h : f i = v) : upd (upd (upd (upd (upd (upd (upd (upd f D7 P7) D6 P6) D5 P5) D4 P4) D3 P3) D2 P2) D1 P1) D0 P0 i = v := Ad (Bool.or_eq_false_iff.1 h2).1 (Ad (Bool.or_eq_false_iff.1 h2).2 h)
theorem Ai {f : Nat → PV} {i : Nat} {v : PV} {D0 D1 D2 D3 D4 D5 D6 D7 D8 D9 D10 D11 D12 D13 D14 D15 : Nat} {P0 P1 P2 P3 P4 P5 P6 P7 P8 P9 P10 P11 P12 P13 P14 P15 : PV} (h2 : (((i == D0 || i == D1 || i == D2 || i == D3) || (i == D4 || i == D5 || i == D6 || i == D7)) || ((i == D8 || i == D9 || i == D10 || i == D11) || (i == D12 || i == D13 || i == D14 || i == D15))) = false) (h : f i = v) : upd (upd (upd (upd (upd (upd (upd (upd (upd (upd (upd (upd (upd (upd (upd (upd f D15 P15) D14 P14) D13 P13) D12 P12) D11 P11) D10 P10) D9 P9) D8 P8) D7 P7) D6 P6) D5 P5) D4 P4) D3 P3) D2 P2) D1 P1) D0 P0 i = v := Ak (Bool.or_eq_false_iff.1 h2).1 (Ak (Bool.or_eq_false_iff.1 h2).2 h)
end Go.Ax
