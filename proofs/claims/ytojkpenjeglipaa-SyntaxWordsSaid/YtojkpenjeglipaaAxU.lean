/- Rules for proofs that a program prints: one for each operation, each with the text's own equation (hr) carried along. -/
import Derived.Test.YtojkpenjeglipaaAxT
set_option linter.unusedVariables false
set_option linter.unusedSimpArgs false
namespace Go.Ax

/-! ### What the steps mean, under weaker ends -/
section
variable {P : Program} {s : XS}
theorem xop_mono {o : XOp} {K K' : PV → List Content → Prop} (hk : xop P o K s) (hi : ∀ v st, K v st → K' v st) : xop P o K' s := by
  by_cases hp : plainOp o = true
  · rw [loc1 (s := s) (s2 := s) hp (fun _ _ => rfl) (fun _ _ => rfl)] at hk ⊢
    obtain ⟨v, h1, h2⟩ := det1 hp hk
    exact h2 (fun v => K' v s.st) (hi _ _ h1)
  · cases o with
    | box x => exact ⟨hk.1, hi _ _ hk.2⟩
    | alloc z => exact hi _ _ hk
    | store size x y =>
      simp only [xop] at hk ⊢
      split at hk
      · split at hk
        · exact ⟨hk.1, hk.2.1, hk.2.2.1, hi _ _ hk.2.2.2⟩
        · exact hk.elim
      · exact hk.elim
    | append e size bytes x y =>
      simp only [xop] at hk ⊢
      split at hk
      · rename_i ys hys
        try simp only [hys]
        obtain ⟨h1, hk⟩ := hk
        refine ⟨h1, ?_⟩
        split at hk
        · exact ⟨hk.1, hk.2.1, hi _ _ hk.2.2⟩
        · split at hk
          · exact ⟨hk.1, hk.2.1, hk.2.2.1, hi _ _ hk.2.2.2⟩
          · exact hk.elim
        · exact hk.elim
      · exact hk.elim
    | eqNil neg x =>
      simp only [xop] at hk ⊢
      split at hk
      · exact ⟨fun e => hi _ _ (hk.1 e), hi _ _ hk.2⟩
      · exact hk.elim
    | call f args => exact ACalls.mono hk hi
    | dyn x args =>
      simp only [xop] at hk ⊢
      split at hk
      · exact ACalls.mono hk hi
      · exact hk.elim
    | mkMap k e => exact hi _ _ hk
    | mapSet k e m x y =>
      simp only [xop] at hk ⊢
      split at hk
      · split at hk
        · exact ⟨hk.1, hk.2.1, hk.2.2.1, hk.2.2.2.1, hi _ _ hk.2.2.2.2⟩
        · exact hk.elim
      · exact hk.elim
    | _ => simp [plainOp] at hp
theorem xops_mono {K K' : XS → Prop} (hi : ∀ s, K s → K' s) : ∀ (l : List XI) (s : XS), xops P l K s → xops P l K' s
  | [], s, h => hi s h
  | i :: r, s, h => by
    simp only [xops] at h ⊢
    split at h
    · rename_i hg
      exact xop_mono h fun v st hk => xops_mono hi r _ hk
    · rename_i t want hg
      split at h
      · rename_i b hb
        try simp only [hb]
        exact ⟨fun e => xop_mono (h.1 e) fun v st hk => xops_mono hi r _ hk, fun e => xops_mono hi r _ (h.2 e)⟩
      · rename_i hb
        try simp only [hb]
        exact xops_mono hi r _ h
      · exact h.elim
theorem xpre_mono {base : Nat} {K K' : XS → Prop} (hi : ∀ s, K s → K' s) : ∀ (l : List XI) (s : XS), xpre P base l K s → xpre P base l K' s
  | [], s, h => hi s h
  | i :: r, s, h => by
    simp only [xpre] at h ⊢
    split at h
    · rename_i hg
      exact xopD_imp h fun v U R hk => xpre_mono hi r _ hk
    · rename_i t want hg
      split at h
      · rename_i b hb
        try simp only [hb]
        exact ⟨fun e => xopD_imp (h.1 e) fun v U R hk => xpre_mono hi r _ hk, fun e => xpre_mono hi r _ (h.2 e)⟩
      · rename_i hb
        try simp only [hb]
        exact xpre_mono hi r _ h
      · exact h.elim
theorem xdraw_mono {anc : List (List Nat)} {base : Nat} {K K' : XS → Prop} (hi : ∀ s, K s → K' s) : ∀ (l : List XI) (k : Nat) (acc : List (List Nat × List Nat)) (s : XS), xdraw P anc base k l acc K s → xdraw P anc base k l acc K' s
  | [], k, acc, s, h => hi s h
  | i :: r, k, acc, s, h => by
    simp only [xdraw] at h ⊢
    split at h
    · rename_i hg
      exact xopD_imp h fun v U R hk => ⟨hk.1, xdraw_mono hi r _ _ _ hk.2⟩
    · rename_i t want hg
      split at h
      · rename_i b hb
        try simp only [hb]
        exact ⟨fun e => xopD_imp (h.1 e) fun v U R hk => ⟨hk.1, xdraw_mono hi r _ _ _ hk.2⟩, fun e => ⟨(h.2 e).1, xdraw_mono hi r _ _ _ (h.2 e).2⟩⟩
      · rename_i hb
        try simp only [hb]
        exact ⟨h.1, xdraw_mono hi r _ _ _ h.2⟩
      · exact h.elim
theorem xexec_mono {n : Nat} : ∀ (c : XC) {Q Q' : XE → XS → Prop} (hi : ∀ e s, Q e s → Q' e s) (s : XS), xexec P n c Q s → xexec P n c Q' s
  | .skip, Q, Q', hi, s, h => hi _ _ h
  | .region ops, Q, Q', hi, s, h => xops_mono (fun s h => hi _ _ h) ops s h
  | .regionD ops anc nf, Q, Q', hi, s, h => xdraw_mono (fun s h => hi _ _ h) ops _ _ _ h
  | .regionS ops nf, Q, Q', hi, s, h => xpre_mono (fun s h => hi _ _ h) ops _ h
  | .seq a b, Q, Q', hi, s, h => xexec_mono a (fun e s h => by
      cases e with
      | normal => exact xexec_mono b hi s h
      | exit id => exact hi _ _ h
      | ret => exact hi _ _ h) s h
  | .cond c a b, Q, Q', hi, s, h => by
      simp only [xexec] at h ⊢
      split at h
      · exact ⟨fun e => xexec_mono a hi s (h.1 e), fun e => xexec_mono b hi s (h.2 e)⟩
      · exact h.elim
  | .block id b, Q, Q', hi, s, h => xexec_mono b (fun e s h => by
      cases e with
      | normal => exact hi _ _ h
      | exit id' => simp only [inBlockX] at h ⊢; split at h <;> simp_all
      | ret => exact hi _ _ h) s h
  | .loop b, Q, Q', hi, s, h => by
      obtain ⟨I, h0, h1⟩ := h
      refine ⟨I, h0, fun m s hm => xexec_mono b (fun e s h => ?_) s (h1 m s hm)⟩
      cases e with
      | normal => exact h
      | exit id => exact hi _ _ h
      | ret => exact hi _ _ h
  | .exit id, Q, Q', hi, s, h => hi _ _ h
  | .ret, Q, Q', hi, s, h => hi _ _ h
/-- Paths that meet. -/
theorem x_join {n : Nat} {Q : XE → XS → Prop} {a b : XC} (I : (Nat → PV) → List Content → Prop) (h1 : xexec P n a (thenX (fun s => I s.r s.st) Q) s) (h2 : ∀ f st, I f st → xexec P n b Q ⟨f, st⟩) : xexec P n (.seq a b) Q s :=
  xexec_mono a (fun e s h => by
    cases e with
    | normal => exact h2 _ _ h
    | exit id => exact h
    | ret => exact h) s h1
end

/-! ### Words of the printed functions -/
def idxL {α : Type} (l : List α) (i : Int) : Option α := if 0 ≤ i then l[i.toNat]? else none
def idxS (b : ByteArray) (i : Int) : Option Int := if 0 ≤ i ∧ i < b.size then some (byteAt b i.toNat) else none
def subL {α : Type} (l : List α) (lo hi : Int) : Option (List α) := if 0 ≤ lo ∧ lo ≤ hi ∧ hi ≤ l.length then some ((l.take hi.toNat).drop lo.toNat) else none
def subS (b : ByteArray) (lo hi : Int) : Option ByteArray := if 0 ≤ lo ∧ lo ≤ hi ∧ hi ≤ b.size then some (b.extract lo.toNat hi.toNat) else none
def appL {α : Type} (bytes : Nat) (l ys : List α) : Option (List α) := if (l.length + ys.length) * bytes ≤ 140737488355328 then some (l ++ ys) else none
def addS (a b : ByteArray) : Option ByteArray := if ((a.size + b.size : Nat) : Int) ≤ 9223372036854775807 then some (a ++ b) else none
def putM (ks : List ByteArray) (b : ByteArray) : Option (List ByteArray) := if b.size ≤ 9223372036854775807 ∧ ks.length < 9223372036854775807 then some (ks ++ [b]) else none
def needP (p : Bool) : Option Unit := if p then some () else none
def rB (b : Bool) : List D := [.bool b]
def rI (k : IntKind) (n : Int) : List D := [.int k n]
def rS (s : ByteArray) : List D := [.str s]
def rL {α : Type} (row : α → List D) (l : List α) : List D := [.sl (l.map row)]
def bytesL (b : ByteArray) : List Int := b.data.toList.map fun u => (u.toNat : Int)
theorem bytesRows_eq (b : ByteArray) : bytesRows b = List.map (rI .u8) (bytesL b) := by simp [bytesRows, bytesL, rI]
def ltS (a b : ByteArray) : Bool := Op.bytesLess a.toList b.toList
theorem bind_some {α β : Type} {o : Option α} {k : α → Option β} {r : β} (h : o.bind k = some r) : ∃ x, o = some x ∧ k x = some r := by
  cases o with
  | none => cases h
  | some x => exact ⟨x, rfl, h⟩

/-! ### Steps -/
section
variable {P : Program} {m : Mode} {r : List XI} {K : XS → Prop} {f : Nat → PV} {st : List Content} {d nm : Nat} {n : Nat} {Q : XE → XS → Prop} {s : XS} {ρ : Type} {res : ρ}
theorem x_condL {x : XA} {a b : XC} {c : Bool} {A B : ρ} (hc : ev s x = .d (.bool c)) (hr : (bif c then A else B) = res) (h1 : A = res → xexec P n a Q s) (h2 : B = res → xexec P n b Q s) : xexec P n (.cond x a b) Q s := by
  cases c
  · exact x_cond_f hc (h2 hr)
  · exact x_cond_t hc (h1 hr)
theorem g_splitL {o : XOp} {ds : Option Nat} {t : Nat} {want c : Bool} {A B : ρ} (ht : f t = .d (.bool c)) (hr : (bif c then A else B) = res) (h1 : A = res → xrun P m (⟨ds, o, some (t, want), nm⟩ :: r) K ⟨upd f t (.d (.bool true)), st⟩) (h2 : B = res → xrun P m (⟨ds, o, some (t, want), nm⟩ :: r) K ⟨upd f t (.d (.bool false)), st⟩) :
    xrun P m (⟨ds, o, some (t, want), nm⟩ :: r) K ⟨f, st⟩ := by
  cases c
  · rw [← upd_self ht]; exact h2 hr
  · rw [← upd_self ht]; exact h1 hr
theorem o_pickL {c x y : XA} {t : Bool} {p q : PV} {A B : ρ} (hc : ev ⟨f, st⟩ c = .d (.bool t)) (hx : ev ⟨f, st⟩ x = p) (hy : ev ⟨f, st⟩ y = q) (hr : (bif t then A else B) = res) (h1 : A = res → xrun P m r K ⟨upd f d p, st⟩) (h2 : B = res → xrun P m r K ⟨upd f d q, st⟩) :
    xrun P m (⟨some d, .pick c x y, none, nm⟩ :: r) K ⟨f, st⟩ := by
  cases t
  · exact o_pick_f hc hy (h2 hr)
  · exact o_pick_t hc hx (h1 hr)
theorem o_pickB {c x y : XA} {t a b : Bool} (hc : ev ⟨f, st⟩ c = .d (.bool t)) (hx : ev ⟨f, st⟩ x = .d (.bool a)) (hy : ev ⟨f, st⟩ y = .d (.bool b)) (h : xrun P m r K ⟨upd f d (.d (.bool (bif t then a else b))), st⟩) :
    xrun P m (⟨some d, .pick c x y, none, nm⟩ :: r) K ⟨f, st⟩ := by
  cases t
  · exact o_pick_f hc hy h
  · exact o_pick_t hc hx h
theorem o_pickI {c x y : XA} {t : Bool} {k : IntKind} {a b : Int} (hc : ev ⟨f, st⟩ c = .d (.bool t)) (hx : ev ⟨f, st⟩ x = .d (.int k a)) (hy : ev ⟨f, st⟩ y = .d (.int k b)) (h : xrun P m r K ⟨upd f d (.d (.int k (bif t then a else b))), st⟩) :
    xrun P m (⟨some d, .pick c x y, none, nm⟩ :: r) K ⟨f, st⟩ := by
  cases t
  · exact o_pick_f hc hy h
  · exact o_pick_t hc hx h
theorem o_pickS {c x y : XA} {t : Bool} {a b : ByteArray} (hc : ev ⟨f, st⟩ c = .d (.bool t)) (hx : ev ⟨f, st⟩ x = .d (.str a)) (hy : ev ⟨f, st⟩ y = .d (.str b)) (h : xrun P m r K ⟨upd f d (.d (.str (bif t then a else b))), st⟩) :
    xrun P m (⟨some d, .pick c x y, none, nm⟩ :: r) K ⟨f, st⟩ := by
  cases t
  · exact o_pick_f hc hy h
  · exact o_pick_t hc hx h
theorem o_idxL {α β : Type} {size : Nat} {x i : XA} {row cells : α → List D} {l : List α} {k : IntKind} {j : Int} {ko : α → Option β} {v : β} (hx : asRows st (ev ⟨f, st⟩ x) = some (l.map row)) (hi : ev ⟨f, st⟩ i = .d (.int k j)) (hr : (idxL l j).bind ko = some v) (hc : ∀ a, row a = cells a) (hz : ∀ a, (cells a).length = size)
    (h : ∀ a, ko a = some v → xrun P m r K ⟨upd f d (.dp (cells a)), st⟩) : xrun P m (⟨some d, .indexAddr size x i, none, nm⟩ :: r) K ⟨f, st⟩ := by
  obtain ⟨a, ha, hr⟩ := bind_some hr
  unfold idxL at ha
  split at ha
  · rename_i h0
    have hlt := (List.getElem?_eq_some_iff.1 ha).1
    refine o_idx hx hi h0 (by simp; omega) (row := cells a) ?_ (hz a) (h a hr)
    rw [List.getElem?_map, ha, ← hc]; rfl
  · cases ha
theorem o_idxSL {β : Type} {x i : XA} {b : ByteArray} {k : IntKind} {j : Int} {ko : Int → Option β} {v : β} (hx : ev ⟨f, st⟩ x = .d (.str b)) (hi : ev ⟨f, st⟩ i = .d (.int k j)) (hr : (idxS b j).bind ko = some v) (h : ∀ a, ko a = some v → xrun P m r K ⟨upd f d (.d (.int .u8 a)), st⟩) : xrun P m (⟨some d, .indexStr x i, none, nm⟩ :: r) K ⟨f, st⟩ := by
  obtain ⟨a, ha, hr⟩ := bind_some hr
  unfold idxS at ha
  split at ha
  · rename_i h0
    cases ha
    exact o_idxS hx hi h0.1 h0.2 (h _ hr)
  · cases ha
theorem o_lenL {α : Type} {x : XA} {row : α → List D} {l : List α} (hx : asRows st (ev ⟨f, st⟩ x) = some (l.map row)) (h : xrun P m r K ⟨upd f d (.d (.int .i64 l.length)), st⟩) : xrun P m (⟨some d, .lenR x, none, nm⟩ :: r) K ⟨f, st⟩ :=
  o_lenR hx (by rw [List.length_map]; exact h)
theorem o_sliceSL {β : Type} {x : XA} {lo hi : Option XA} {b : ByteArray} {i j : Int} {ko : ByteArray → Option β} {v : β} (hx : ev ⟨f, st⟩ x = .d (.str b)) (hlo : ∀ K : Int → Prop, K i → bnd ⟨f, st⟩ 0 K lo) (hhi : ∀ K : Int → Prop, K j → bnd ⟨f, st⟩ b.size K hi) (hr : (subS b i j).bind ko = some v)
    (h : ∀ a, ko a = some v → xrun P m r K ⟨upd f d (.d (.str a)), st⟩) : xrun P m (⟨some d, .sliceS x lo hi, none, nm⟩ :: r) K ⟨f, st⟩ := by
  obtain ⟨a, ha, hr⟩ := bind_some hr
  unfold subS at ha
  split at ha
  · rename_i h0
    cases ha
    exact o_sliceS hx (hlo _ (hhi _ ⟨h0.1, h0.2.1, h0.2.2, h _ hr⟩))
  · cases ha
theorem o_sliceL {α β : Type} {size : Nat} {x : XA} {lo hi : Option XA} {row cells : α → List D} {l : List α} {i j : Int} {ko : List α → Option β} {v : β} (hx : asRows st (ev ⟨f, st⟩ x) = some (l.map row)) (hc : ∀ a, row a = cells a) (hz : ∀ a, (cells a).length = size) (hlo : ∀ K : Int → Prop, K i → bnd ⟨f, st⟩ 0 K lo) (hhi : ∀ K : Int → Prop, K j → bnd ⟨f, st⟩ l.length K hi) (hr : (subL l i j).bind ko = some v)
    (h : ∀ a, ko a = some v → xrun P m r K ⟨upd f d (.d (.sl (a.map row))), st⟩) : xrun P m (⟨some d, .sliceR size x lo hi none, none, nm⟩ :: r) K ⟨f, st⟩ := by
  obtain ⟨a, ha, hr⟩ := bind_some hr
  unfold subL at ha
  split at ha
  · rename_i h0
    cases ha
    refine o_sliceR hx (fun row' hm => ?_) (hlo _ ?_)
    · obtain ⟨a, _, rfl⟩ := List.mem_map.1 hm; rw [hc]; exact hz a
    · rw [List.length_map]
      refine hhi _ ⟨h0.1, h0.2.1, by exact h0.2.2, ?_⟩
      have := h _ hr
      rw [List.map_drop, List.map_take] at this
      exact this
  · cases ha
theorem o_sliceXL {α β : Type} {size : Nat} {x mx : XA} {lo hi : Option XA} {row cells : α → List D} {l : List α} {i j : Int} {ko : List α → Option β} {v : β} (hx : asRows st (ev ⟨f, st⟩ x) = some (l.map row)) (hc : ∀ a, row a = cells a) (hz : ∀ a, (cells a).length = size) (hlo : ∀ K : Int → Prop, K i → bnd ⟨f, st⟩ 0 K lo) (hhi : ∀ K : Int → Prop, K j → bnd ⟨f, st⟩ (-1) K hi) (hmx : ∀ K : Int → Prop, K j → bnd ⟨f, st⟩ 0 K (some mx)) (hr : (subL l i j).bind ko = some v)
    (h : ∀ a, ko a = some v → xrun P m r K ⟨upd f d (.ex (a.map row)), st⟩) : xrun P m (⟨some d, .sliceR size x lo hi (some mx), none, nm⟩ :: r) K ⟨f, st⟩ := by
  obtain ⟨a, ha, hr⟩ := bind_some hr
  unfold subL at ha
  split at ha
  · rename_i h0
    cases ha
    refine o_sliceX hx (fun row' hm => ?_) (hlo _ ?_)
    · obtain ⟨a, _, rfl⟩ := List.mem_map.1 hm; rw [hc]; exact hz a
    · refine hhi _ (hmx _ ⟨h0.1, h0.2.1, rfl, by rw [List.length_map]; exact h0.2.2, ?_⟩)
      have := h _ hr
      rw [List.map_drop, List.map_take] at this
      exact this
  · cases ha
variable {l : List Content} {n0 k : Nat}
theorem o_appXL {α β : Type} {e size bytes : Nat} {x y : XA} {row cells : α → List D} {xs ys : List α} {ko : List α → Option β} {v : β} (hn : st.length = n0) (hk : l.length = k) (hy : asRows (st ++ l) (ev ⟨f, st ++ l⟩ y) = some (ys.map row)) (hc : ∀ a, row a = cells a) (hz : ∀ a, (cells a).length = size) (hx : ev ⟨f, st ++ l⟩ x = .ex (xs.map row)) (hr : (appL bytes xs ys).bind ko = some v)
    (h : ∀ a, ko a = some v → xrun P .seq r K ⟨upd f d (.own (n0 + k) 1), st ++ (l ++ [.row e 1 (a.map row)])⟩) : xrun P .seq (⟨some d, .append e size bytes x y, none, nm⟩ :: r) K ⟨f, st ++ l⟩ := by
  obtain ⟨a, ha, hr⟩ := bind_some hr
  unfold appL at ha
  split at ha
  · rename_i h0
    cases ha
    have h1 : ∀ zs : List α, ∀ row', row' ∈ zs.map row → row'.length = size := fun zs row' hm => by obtain ⟨a, _, rfl⟩ := List.mem_map.1 hm; rw [hc]; exact hz a
    refine o_appX hn hk hy (h1 ys) hx (h1 xs) (by simpa using h0) ?_
    have := h _ hr
    rw [List.map_append] at this
    exact this
  · cases ha
theorem o_appXPL {α β : Type} {e size bytes : Nat} {x y : XA} {row cells : α → List D} {xs ys : List α} {ko : List α → Option β} {v : β} (hn : st.length = n0) (hk : l[k + nm]? = some .fresh) (hy : asRows (st ++ l) (ev ⟨f, st ++ l⟩ y) = some (ys.map row)) (hc : ∀ a, row a = cells a) (hz : ∀ a, (cells a).length = size) (hx : ev ⟨f, st ++ l⟩ x = .ex (xs.map row)) (hr : (appL bytes xs ys).bind ko = some v)
    (h : ∀ a, ko a = some v → xrun P (.pre (n0 + k)) r K ⟨upd f d (.own (n0 + (k + nm)) 1), st ++ l.set (k + nm) (.row e 1 (a.map row))⟩) : xrun P (.pre (n0 + k)) (⟨some d, .append e size bytes x y, none, nm⟩ :: r) K ⟨f, st ++ l⟩ := by
  obtain ⟨a, ha, hr⟩ := bind_some hr
  unfold appL at ha
  split at ha
  · rename_i h0
    cases ha
    have h1 : ∀ zs : List α, ∀ row', row' ∈ zs.map row → row'.length = size := fun zs row' hm => by obtain ⟨a, _, rfl⟩ := List.mem_map.1 hm; rw [hc]; exact hz a
    refine o_appXP hn hk hy (h1 ys) hx (h1 xs) (by simpa using h0) ?_
    have := h _ hr
    rw [List.map_append] at this
    exact this
  · cases ha
theorem o_appOL {α β : Type} {e size bytes : Nat} {x y : XA} {row cells : α → List D} {xs ys : List α} {t ver : Nat} {ko : List α → Option β} {v : β} (hy : asRows st (ev ⟨f, st⟩ y) = some (ys.map row)) (hc : ∀ a, row a = cells a) (hz : ∀ a, (cells a).length = size) (hx : ev ⟨f, st⟩ x = .own t ver) (ht : st[t]? = some (.row e ver (xs.map row))) {st' : List α → List Content} (hst : ∀ a : List α, st.set t (.row e (ver + 1) (a.map row)) = st' a) (hr : (appL bytes xs ys).bind ko = some v)
    (h : ∀ a, ko a = some v → xrun P m r K ⟨upd f d (.own t (ver + 1)), st' a⟩) : xrun P m (⟨some d, .append e size bytes x y, none, nm⟩ :: r) K ⟨f, st⟩ := by
  obtain ⟨a, ha, hr⟩ := bind_some hr
  unfold appL at ha
  split at ha
  · rename_i h0
    cases ha
    have h1 : ∀ zs : List α, ∀ row', row' ∈ zs.map row → row'.length = size := fun zs row' hm => by obtain ⟨a, _, rfl⟩ := List.mem_map.1 hm; rw [hc]; exact hz a
    refine o_appO hy (h1 ys) hx ht (by simpa using h0) (st' := st' (xs ++ ys)) ?_ (h _ hr)
    rw [← hst, List.map_append]
  · cases ha
theorem o_mapSetL {β : Type} {kt e : TypeId} {mm x y : XA} {t : Nat} {b : ByteArray} {w : Bool} {ks : List ByteArray} {ko : List ByteArray → Option β} {v : β} (hm : ev ⟨f, st⟩ mm = .map t) (hx : ev ⟨f, st⟩ x = .d (.str b)) (hy : ev ⟨f, st⟩ y = .d (.bool w)) (ht : st[t]? = some (.map kt e ks))
    {st' : List ByteArray → List Content} (hst : ∀ ks, st.set t (.map kt e ks) = st' ks) (hr : (putM ks b).bind ko = some v) (h : ∀ a, ko a = some v → xrun P m r K ⟨f, st' a⟩) : xrun P m (⟨none, .mapSet kt e mm x y, none, nm⟩ :: r) K ⟨f, st⟩ := by
  obtain ⟨a, ha, hr⟩ := bind_some hr
  unfold putM at ha
  split at ha
  · rename_i h0
    cases ha
    exact o_mapSet hm hx hy ht h0.1 h0.2 (hst _) (h _ hr)
  · cases ha
theorem o_toBytesL {x : XA} {b : ByteArray} (hx : ev ⟨f, st⟩ x = .d (.str b)) (h : xrun P m r K ⟨upd f d (.d (.sl ((bytesL b).map (rI .u8)))), st⟩) : xrun P m (⟨some d, .toBytes x, none, nm⟩ :: r) K ⟨f, st⟩ :=
  o_toBytes hx (by rw [bytesRows_eq]; exact h)
/-- A string's bounds. -/
theorem bd0 {dflt : Int} {s : XS} : ∀ K : Int → Prop, K dflt → bnd s dflt K none := fun K h => h
theorem bd1 {dflt i : Int} {a : XA} {k : IntKind} {s : XS} (ha : ev s a = .d (.int k i)) : ∀ K : Int → Prop, K i → bnd s dflt K (some a) := fun K h => bd_some ha h
end
section
variable {K : D → Prop} {k : IntKind} {a b : Int} {β : Type}
theorem b_quoL {ko : Unit → Option β} {v : β} (hr : (needP (decide (b ≠ 0))).bind ko = some v) (h : ko () = some v → K (.int k (k.wrap (a.tdiv b)))) : binK .quo K (.int k a) (.int k b) := by
  obtain ⟨x, hx, hr⟩ := bind_some hr
  unfold needP at hx
  split at hx
  · rename_i hb; exact b_quo (by simpa using hb) (h hr)
  · cases hx
theorem b_remL {ko : Unit → Option β} {v : β} (hr : (needP (decide (b ≠ 0))).bind ko = some v) (h : ko () = some v → K (.int k (a.tmod b))) : binK .rem K (.int k a) (.int k b) := by
  obtain ⟨x, hx, hr⟩ := bind_some hr
  unfold needP at hx
  split at hx
  · rename_i hb; exact b_rem (by simpa using hb) (h hr)
  · cases hx
theorem b_and (h : K (.int k (k.wrap (BitVec.ofInt k.bits a &&& BitVec.ofInt k.bits b).toNat))) : binK .and K (.int k a) (.int k b) := ⟨rfl, h⟩
theorem b_or (h : K (.int k (k.wrap (BitVec.ofInt k.bits a ||| BitVec.ofInt k.bits b).toNat))) : binK .or K (.int k a) (.int k b) := ⟨rfl, h⟩
theorem b_xor (h : K (.int k (k.wrap (BitVec.ofInt k.bits a ^^^ BitVec.ofInt k.bits b).toNat))) : binK .xor K (.int k a) (.int k b) := ⟨rfl, h⟩
variable {x y : ByteArray}
theorem b_saddL {ko : ByteArray → Option β} {v : β} (hr : (addS x y).bind ko = some v) (h : ∀ a, ko a = some v → K (.str a)) : binK .add K (.str x) (.str y) := by
  obtain ⟨a, ha, hr⟩ := bind_some hr
  unfold addS at ha
  split at ha
  · rename_i hb; cases ha; exact b_sadd hb (h _ hr)
  · cases ha
theorem b_slss (h : K (.bool (ltS x y))) : binK .lss K (.str x) (.str y) := h
theorem b_sgeq (h : K (.bool (!ltS x y))) : binK .geq K (.str x) (.str y) := h
theorem b_sleq (h : K (.bool (ltS x y || decide (x = y)))) : binK .leq K (.str x) (.str y) := by
  show K (.bool (Op.bytesLess x.toList y.toList || x.toList == y.toList)); rw [toList_eq]; exact h
theorem b_sgtr (h : K (.bool (!(ltS x y || decide (x = y))))) : binK .gtr K (.str x) (.str y) := by
  show K (.bool (!(Op.bytesLess x.toList y.toList || x.toList == y.toList))); rw [toList_eq]; exact h
end

/-! ### Loops -/
theorem x_loopL {P : Program} {n : Nat} {b : XC} {Q : XE → XS → Prop} {s : XS} (I : Nat → (Nat → PV) → List Content → Prop) (m : Nat) {s0 : XS} (hg : Ghost P n s s0) (h0 : I m s0.r s0.st) (h : ∀ m f st, I m f st → xexec P n b (thenX (fun s1 => ∃ m' s', m' < m ∧ Ghost P n s1 s' ∧ I m' s'.r s'.st) Q) ⟨f, st⟩) : xexec P n (.loop b) Q s :=
  ⟨fun m s => I m s.r s.st, ⟨m, s0, hg, h0⟩, fun m s hi => h m s.r s.st hi⟩
theorem cut_keep {B l0 l1 : List Content} {k n0 : Nat} (hB : WF B) (hn : B.length = n0) (hl : l0.length = k) (h0 : l0.map (cutC (n0 + k)) = l0) : cutS (n0 + k) (B ++ (l0 ++ l1)) = B ++ l0 := by
  subst hn; subst hl
  have e : (B ++ (l0 ++ l1)).take (B.length + l0.length) = B ++ l0 := by
    rw [← List.append_assoc, ← List.length_append, List.take_left]
  have e2 := cutS_id hB (n := B.length + l0.length) (by omega)
  unfold cutS at e2 ⊢
  rw [List.take_of_length_le (by omega)] at e2
  rw [e, List.map_append, h0, e2]
theorem WF.setBox {st : List Content} {x : Nat} {cells : List PV} (h : WF st) (hc : belowB.belowL st.length cells = true) : WF (st.set x (.box cells)) := fun cs hm => by
  rw [List.length_set]
  rcases List.mem_or_eq_of_mem_set hm with hm | hm
  · exact h cs hm
  · cases hm; exact hc
theorem WF.setMap {st : List Content} {x k e : Nat} {ks : List ByteArray} (h : WF st) : WF (st.set x (.map k e ks)) := fun cs hm => by
  rw [List.length_set]
  rcases List.mem_or_eq_of_mem_set hm with hm | hm
  · exact h cs hm
  · cases hm
theorem cutS_of {B l : List Content} {n : Nat} (h : WF B) (hn : B.length = n) : cutS n (B ++ l) = B := by subst hn; exact cutS_wf h
/-! looking up over several -/
section
variable {f : Nat → PV} {d d2 d3 d4 i : Nat} {p p2 p3 p4 v : PV}
theorem e_m2 (h2 : (i == d || i == d2) = false) (h : f i = v) : upd (upd f d2 p2) d p i = v := by
  simp only [Bool.or_eq_false_iff] at h2
  exact e_miss h2.1 (e_miss h2.2 h)
theorem e_m4 (h2 : (i == d || i == d2 || i == d3 || i == d4) = false) (h : f i = v) : upd (upd (upd (upd f d4 p4) d3 p3) d2 p2) d p i = v := by
  simp only [Bool.or_eq_false_iff] at h2
  exact e_miss h2.1.1.1 (e_miss h2.1.1.2 (e_miss h2.1.2 (e_miss h2.2 h)))
end

/-! more words -/
section
variable {K : D → Prop} {k : IntKind} {a b : Int} {x y : ByteArray}
theorem b_neqL (h : K (.bool (!decide (a = b)))) : binK .neq K (.int k a) (.int k b) := by
  have e : (a != b) = !decide (a = b) := by rw [Bool.eq_iff_iff]; simp
  exact ⟨rfl, by rw [e]; exact h⟩
theorem b_gtrL (h : K (.bool (decide (b < a)))) : binK .gtr K (.int k a) (.int k b) := ⟨rfl, h⟩
theorem b_geqL (h : K (.bool (decide (b ≤ a)))) : binK .geq K (.int k a) (.int k b) := ⟨rfl, h⟩
theorem b_shl {k' : IntKind} (h0 : 0 ≤ b) (h : K (.int k (k.wrap (a * 2 ^ (min b.toNat k.bits))))) : binK .shl K (.int k a) (.int k' b) := ⟨h0, h⟩
theorem b_sneqL (h : K (.bool (!decide (x = y)))) : binK .neq K (.str x) (.str y) := by
  show K (.bool (!(x.toList == y.toList))); rw [toList_eq]; exact h
end
section
variable {st B B' l : List Content} {c c' c0 : Content}
theorem set_last {x : Nat} : (B.set x c).set x c' = B.set x c' := by simp
theorem set_under {x y : Nat} (hne : (y == x) = false) (h : B.set x c = B') : (B.set y c').set x c = B'.set y c' := by
  subst h; rw [List.set_comm]; simpa using hne
theorem set_self {x : Nat} (h : B[x]? = some c) : B.set x c = B := by
  have := List.getElem?_eq_some_iff.1 h
  obtain ⟨h1, h2⟩ := this
  subst h2
  exact List.set_getElem_self h1
theorem beq_comm_f {x y : Nat} (h : (x == y) = false) : (y == x) = false := by
  rw [beq_eq_false_iff_ne] at h ⊢; exact fun e => h e.symm
theorem ne_old {x k : Nat} (h : st[x]? = some c) : (x == st.length + k) = false := by
  have := (List.getElem?_eq_some_iff.1 h).1
  rw [beq_eq_false_iff_ne]; omega
theorem cutS_eq {n : Nat} (h : B = B') {out : List Content} (k : cutS n (B' ++ l) = out) : cutS n (B ++ l) = out := by rw [h]; exact k
theorem lt_old {x : Nat} (h : st[x]? = some c) (n : Nat) : x < st.length + n := by have := (List.getElem?_eq_some_iff.1 h).1; omega
theorem lt_old0 {x : Nat} (h : st[x]? = some c) : x < st.length := (List.getElem?_eq_some_iff.1 h).1
theorem ne_l1 {x : Nat} (h : st[x]? = some c) (n : Nat) : ¬ x = st.length + n := by have := (List.getElem?_eq_some_iff.1 h).1; omega
theorem ne_l2 {x : Nat} (h : st[x]? = some c) (n : Nat) : ¬ st.length + n = x := by have := (List.getElem?_eq_some_iff.1 h).1; omega
theorem ne_l3 {x : Nat} (h : st[x]? = some c) : ¬ x = st.length := by have := (List.getElem?_eq_some_iff.1 h).1; omega
theorem ne_l4 {x : Nat} (h : st[x]? = some c) : ¬ st.length = x := by have := (List.getElem?_eq_some_iff.1 h).1; omega
theorem cutv_old {x n m : Nat} {off : Nat} (h : st[x]? = some c) : cutV (st.length + n) (.ptr x off) = .ptr x off := by
  have := (List.getElem?_eq_some_iff.1 h).1
  simp [cutV, belowB]; omega
theorem rowlen {α : Type} {row cells : α → List D} {n : Nat} {l : List α} (hc : ∀ a, row a = cells a) (hz : ∀ a, (cells a).length = n := by intro _; rfl) : ∀ r, r ∈ l.map row → r.length = n := fun r hm => by
  obtain ⟨a, _, rfl⟩ := List.mem_map.1 hm; rw [hc]; exact hz a
theorem rows_st {s : XS} {n : Nat} {xs : List XA} {rows rows' : List (List D)} (h : rows = rows') (k : rowsOf s n xs = some rows') : rowsOf s n xs = some rows := by rw [h]; exact k
end
theorem args0_6 (a b c d e g : PV) : args0 [a, b, c, d, e, g] = upd (upd (upd (upd (upd (upd u0 5 g) 4 e) 3 d) 2 c) 1 b) 0 a := by
  funext i; simp only [args0, upd, u0]; match i with | 0 => rfl | 1 => rfl | 2 => rfl | 3 => rfl | 4 => rfl | 5 => rfl | i + 6 => simp
theorem args0_7 (a b c d e g h : PV) : args0 [a, b, c, d, e, g, h] = upd (upd (upd (upd (upd (upd (upd u0 6 h) 5 g) 4 e) 3 d) 2 c) 1 b) 0 a := by
  funext i; simp only [args0, upd, u0]; match i with | 0 => rfl | 1 => rfl | 2 => rfl | 3 => rfl | 4 => rfl | 5 => rfl | 6 => rfl | i + 7 => simp
/-! regions with footprints -/
section
variable {P : Program} {base : Nat} {acc : Acc} {r : List XI} {K : Acc → XS → Prop} {f : Nat → PV} {st : List Content} {d nm : Nat} {ρ : Type} {res : ρ}
theorem acc_of_run {o : XOp} {R : List Nat} (hp : plainOp o = true) (hR : readsOf o ⟨f, st⟩ = R) (h : xrun P .seq [⟨some d, o, none, 0⟩] (fun s => xacc P base r (acc ++ [([], R)]) K s) ⟨f, st⟩) : xacc P base (⟨some d, o, none, nm⟩ :: r) acc K ⟨f, st⟩ := by
  refine runA_plain hp hR ?_
  have h' : xop P o (fun v st' => xacc P base r (acc ++ [([], R)]) K ⟨upd f d v, st'⟩) ⟨f, st⟩ := h
  rw [loc1 (s := ⟨f, st⟩) (s2 := ⟨f, st⟩) hp (fun _ _ => rfl) (fun _ _ => rfl)] at h'
  exact h'
theorem q_splitL {o : XOp} {ds : Option Nat} {t : Nat} {want c : Bool} {A B : ρ} (ht : f t = .d (.bool c)) (hr : (bif c then A else B) = res) (h1 : A = res → xacc P base (⟨ds, o, some (t, want), nm⟩ :: r) acc K ⟨upd f t (.d (.bool true)), st⟩) (h2 : B = res → xacc P base (⟨ds, o, some (t, want), nm⟩ :: r) acc K ⟨upd f t (.d (.bool false)), st⟩) :
    xacc P base (⟨ds, o, some (t, want), nm⟩ :: r) acc K ⟨f, st⟩ := by
  cases c
  · rw [← upd_self ht]; exact h2 hr
  · rw [← upd_self ht]; exact h1 hr
theorem rd_load {x : XA} {a : Bool} {size b off : Nat} (h : ev ⟨f, st⟩ x = .ptr b off) : readsOf (.load a size x) ⟨f, st⟩ = [b] := by simp only [readsOf, h]
theorem rd_loadD {x : XA} {a : Bool} {size : Nat} {cells : List D} (h : ev ⟨f, st⟩ x = .dp cells) : readsOf (.load a size x) ⟨f, st⟩ = [] := by simp only [readsOf, h]
theorem rd_tokD {o : XOp} {x : XA} {dd : D} (h : ev ⟨f, st⟩ x = .d dd) (ho : ∀ s, readsOf o s = tokOf (ev s x) := by intro _; rfl) : readsOf o ⟨f, st⟩ = [] := by rw [ho, h]; rfl
theorem rd_tokE {o : XOp} {x : XA} {rows : List (List D)} (h : ev ⟨f, st⟩ x = .ex rows) (ho : ∀ s, readsOf o s = tokOf (ev s x) := by intro _; rfl) : readsOf o ⟨f, st⟩ = [] := by rw [ho, h]; rfl
theorem rd_tokO {o : XOp} {x : XA} {t ver : Nat} (h : ev ⟨f, st⟩ x = .own t ver) (ho : ∀ s, readsOf o s = tokOf (ev s x) := by intro _; rfl) : readsOf o ⟨f, st⟩ = [t] := by rw [ho, h]; rfl
variable {l : List Content} {n0 k : Nat}
theorem p_box {x : XA} {cs : List PV} (hn : st.length = n0) (hk : l[k + nm]? = some .fresh) {px : PV} (hx : ev ⟨f, st ++ l⟩ x = px) (hc : px.cells = cs) (h1 : cs.all PV.one = true) (h : xacc P (n0 + k) r (acc ++ [([n0 + (k + nm)], [n0 + (k + nm)])]) K ⟨upd f d (.ptr (n0 + (k + nm)) 0), st ++ l.set (k + nm) (.box cs)⟩) : xacc P (n0 + k) (⟨some d, .box x, none, nm⟩ :: r) acc K ⟨f, st ++ l⟩ := by
  subst hx; subst hc; subst hn
  show xopD P (.box x) (st.length + k + nm) (fun v U R => xacc P (st.length + k) r (acc ++ [(U.map (·.1), R)]) K ⟨upd f d v, setAll (st ++ l) U⟩) ⟨f, st ++ l⟩
  rw [Nat.add_assoc]
  refine ⟨(g_ext rfl _).trans hk, h1, ?_⟩
  simp only [setAll, s_ext rfl]
  exact h
theorem p_alloc {zero : List PV} (hn : st.length = n0) (hk : l[k + nm]? = some .fresh) (h : xacc P (n0 + k) r (acc ++ [([n0 + (k + nm)], [n0 + (k + nm)])]) K ⟨upd f d (.ptr (n0 + (k + nm)) 0), st ++ l.set (k + nm) (.box zero)⟩) : xacc P (n0 + k) (⟨some d, .alloc zero, none, nm⟩ :: r) acc K ⟨f, st ++ l⟩ := by
  subst hn
  show xopD P (.alloc zero) (st.length + k + nm) (fun v U R => xacc P (st.length + k) r (acc ++ [(U.map (·.1), R)]) K ⟨upd f d v, setAll (st ++ l) U⟩) ⟨f, st ++ l⟩
  rw [Nat.add_assoc]
  refine ⟨(g_ext rfl _).trans hk, ?_⟩
  simp only [setAll, s_ext rfl]
  exact h
theorem p_appXL {α β : Type} {e size bytes : Nat} {x y : XA} {row cells : α → List D} {xs ys : List α} {ko : List α → Option β} {v : β} (hn : st.length = n0) (hk : l[k + nm]? = some .fresh) {py : PV} (hpy : ev ⟨f, st ++ l⟩ y = py) (hy : asRows (st ++ l) py = some (ys.map row)) (hc : ∀ a, row a = cells a) (hz : ∀ a, (cells a).length = size) (hx : ev ⟨f, st ++ l⟩ x = .ex (xs.map row)) (hr : (appL bytes xs ys).bind ko = some v)
    (h : ∀ a, ko a = some v → xacc P (n0 + k) r (acc ++ [([n0 + (k + nm)], (n0 + (k + nm)) :: tokOf py)]) K ⟨upd f d (.own (n0 + (k + nm)) 1), st ++ l.set (k + nm) (.row e 1 (a.map row))⟩) : xacc P (n0 + k) (⟨some d, .append e size bytes x y, none, nm⟩ :: r) acc K ⟨f, st ++ l⟩ := by
  obtain ⟨a, ha, hr⟩ := bind_some hr
  unfold appL at ha
  split at ha
  · rename_i h0
    cases ha
    have h1 : ∀ zs : List α, ∀ row', row' ∈ zs.map row → row'.length = size := fun zs row' hm => by obtain ⟨a, _, rfl⟩ := List.mem_map.1 hm; rw [hc]; exact hz a
    refine p_appX hn hk hpy hy (h1 ys) hx (h1 xs) (by simpa using h0) ?_
    have := h _ hr
    rw [List.map_append] at this
    exact this
  · cases ha
theorem p_appOL {α β : Type} {e size bytes : Nat} {x y : XA} {row cells : α → List D} {xs ys : List α} {t ver : Nat} {ko : List α → Option β} {v : β} {py : PV} (hpy : ev ⟨f, st⟩ y = py) (hy : asRows st py = some (ys.map row)) (hc : ∀ a, row a = cells a) (hz : ∀ a, (cells a).length = size) (hx : ev ⟨f, st⟩ x = .own t ver) (ht : st[t]? = some (.row e ver (xs.map row))) {st' : List α → List Content} (hst : ∀ a : List α, st.set t (.row e (ver + 1) (a.map row)) = st' a) (hr : (appL bytes xs ys).bind ko = some v)
    (h : ∀ a, ko a = some v → xacc P base r (acc ++ [([t], t :: tokOf py)]) K ⟨upd f d (.own t (ver + 1)), st' a⟩) : xacc P base (⟨some d, .append e size bytes x y, none, nm⟩ :: r) acc K ⟨f, st⟩ := by
  obtain ⟨a, ha, hr⟩ := bind_some hr
  unfold appL at ha
  split at ha
  · rename_i h0
    cases ha
    have h1 : ∀ zs : List α, ∀ row', row' ∈ zs.map row → row'.length = size := fun zs row' hm => by obtain ⟨a, _, rfl⟩ := List.mem_map.1 hm; rw [hc]; exact hz a
    refine p_appO hpy hy (h1 ys) hx ht (by simpa using h0) (st' := st' (xs ++ ys)) ?_ (h _ hr)
    rw [← hst, List.map_append]
  · cases ha
theorem p_mapSetL {β : Type} {kt e : TypeId} {mm x y : XA} {t : Nat} {b : ByteArray} {w : Bool} {ks : List ByteArray} {ko : List ByteArray → Option β} {v : β} (hm : ev ⟨f, st⟩ mm = .map t) (hx : ev ⟨f, st⟩ x = .d (.str b)) (hy : ev ⟨f, st⟩ y = .d (.bool w)) (ht : st[t]? = some (.map kt e ks))
    {st' : List ByteArray → List Content} (hst : ∀ ks, st.set t (.map kt e ks) = st' ks) (hr : (putM ks b).bind ko = some v) (h : ∀ a, ko a = some v → xacc P base r (acc ++ [([t], [t])]) K ⟨f, st' a⟩) : xacc P base (⟨none, .mapSet kt e mm x y, none, nm⟩ :: r) acc K ⟨f, st⟩ := by
  obtain ⟨a, ha, hr⟩ := bind_some hr
  unfold putM at ha
  split at ha
  · rename_i h0
    cases ha
    exact p_mapSet hm hx hy ht h0.1 h0.2 (hst _) (h _ hr)
  · cases ha
end

section
variable {P : Program} {m : Mode} {a b : List XI} {K : XS → Prop} {s : XS}
theorem run_app (h : xrun P m a (fun s => xrun P m b K s) s) : xrun P m (a ++ b) K s := by
  cases m with
  | seq => exact go a s h
  | pre base => exact go2 a s h
where
  go : ∀ (a : List XI) (s : XS), xops P a (fun s => xops P b K s) s → xops P (a ++ b) K s
    | [], s, h => h
    | i :: r, s, h => by
      simp only [xops, List.cons_append] at h ⊢
      split at h
      · rename_i hg
        exact xop_mono h fun v st hk => go r _ hk
      · rename_i t want hg
        split at h
        · rename_i b hb
          try simp only [hb]
          exact ⟨fun e => xop_mono (h.1 e) fun v st hk => go r _ hk, fun e => go r _ (h.2 e)⟩
        · rename_i hb
          try simp only [hb]
          exact go r _ h
        · exact h.elim
  go2 {base : Nat} : ∀ (a : List XI) (s : XS), xpre P base a (fun s => xpre P base b K s) s → xpre P base (a ++ b) K s
    | [], s, h => h
    | i :: r, s, h => by
      simp only [xpre, List.cons_append] at h ⊢
      split at h
      · rename_i hg
        exact xopD_imp h fun v U R hk => go2 r _ hk
      · rename_i t want hg
        split at h
        · rename_i b hb
          try simp only [hb]
          exact ⟨fun e => xopD_imp (h.1 e) fun v U R hk => go2 r _ hk, fun e => go2 r _ (h.2 e)⟩
        · rename_i hb
          try simp only [hb]
          exact go2 r _ h
        · exact h.elim
theorem run_join (I : (Nat → PV) → List Content → Prop) (h1 : xrun P m a (fun s => I s.r s.st) s) (h2 : ∀ f st, I f st → xrun P m b K ⟨f, st⟩) : xrun P m (a ++ b) K s := by
  refine run_app ?_
  cases m with
  | seq => exact xops_mono (fun s h => h2 _ _ h) a s h1
  | pre base => exact xpre_mono (fun s h => h2 _ _ h) a s h1
end
theorem ne_of_beq_f {x y : Nat} (h : (x == y) = false) : ¬ x = y := by rwa [beq_eq_false_iff_ne] at h
theorem ne_of_beq_f' {x y : Nat} (h : (x == y) = false) : ¬ y = x := by rw [beq_eq_false_iff_ne] at h; exact fun e => h e.symm
theorem cutv_fn {f : FuncId} {n : Nat} {ps qs : List PV} (h : (belowB.belowL n ps && belowB.belowL n qs) = true) : cutV n (.fn f ps qs) = .fn f ps qs := by
  simp only [Bool.and_eq_true] at h
  simp [cutV, belowB, h.1, h.2]
/-! contracts of the library's own -/
def unlikeL (ys : List ByteArray) : Option Bool := if ys.length * 16 ≤ 140737488351232 then some (decide ys.Nodup) else none

section
variable {P : Program} {n : Nat} {f : Nat → PV} {B l : List Content} {n0 k : Nat}
theorem gh_adopt (i : Nat) (rows : List (List D)) (e size : Nat) (hn : B.length = n0) (hk : l.length = k) (h : f i = .ex rows) (hs : (P.info? e).map (·.size) = some size) (hz : ∀ row, row ∈ rows → row.length = size) : Ghost P n ⟨f, B ++ l⟩ ⟨upd f i (.own (n0 + k) 0), B ++ (l ++ [.row e 0 rows])⟩ := by
  have := Ghost.adopt (P := P) (n := n) ⟨f, B ++ l⟩ i rows e size h hs hz
  subst hn; subst hk
  simpa [List.append_assoc] using this
theorem gh_adoptB (i off : Nat) (rows : List (List D)) (e size : Nat) {cells : List PV} (hn : B.length = n0) (hk : l.length = k) (hx : l[i]? = some (.box cells)) (hc : cells[off]? = some (.ex rows)) (hs : (P.info? e).map (·.size) = some size) (hz : ∀ row, row ∈ rows → row.length = size) : Ghost P n ⟨f, B ++ l⟩ ⟨f, B ++ (l.set i (.box (cells.set off (.own (n0 + k) 0))) ++ [.row e 0 rows])⟩ := by
  have := Ghost.adoptB (P := P) (n := n) ⟨f, B ++ l⟩ (B.length + i) off rows e size (cells := cells) ((g_ext rfl i).trans hx) hc hs hz
  subst hn; subst hk
  rw [s_ext rfl] at this
  simpa [List.append_assoc] using this
theorem gh_freezeX (i : Nat) {rows : List (List D)} (h : f i = .ex rows) : Ghost P n ⟨f, B ++ l⟩ ⟨upd f i (.d (.sl rows)), B ++ l⟩ := by
  have := Ghost.freeze (P := P) (n := n) ⟨f, B ++ l⟩ i
  simp only [h, fz_ex] at this
  exact this
end

/-! calls that hand back a row of their own -/
def cloneL {α : Type} (bytes : Nat) (l : List α) : Option (List α) := if l.length * bytes ≤ 140737488355328 then some l else none
section
variable {P : Program} {r : List XI} {K : XS → Prop} {f : Nat → PV} {st l : List Content} {d nm : Nat} {n0 k : Nat} {g : FuncId} {args : List XA} {vs : List PV} {e : TypeId} {rows : List (List D)}
theorem o_callOwn (hn : st.length = n0) (hk : l.length = k) (ha : args.map (fun a => frzA (st ++ l) (ev ⟨f, st ++ l⟩ a)) = vs) (h : ∀ S, ACalls P g vs S (fun p st' => p = .own S.length 1 ∧ st' = S ++ [.row e 1 rows]))
    (hk2 : xrun P .seq r K ⟨upd f d (.own (n0 + k) 1), st ++ (l ++ [.row e 1 rows])⟩) : xrun P .seq (⟨some d, .call g args, none, nm⟩ :: r) K ⟨f, st ++ l⟩ := by
  subst hn; subst hk; subst ha
  rw [← List.append_assoc, ← List.length_append] at hk2
  exact (h (st ++ l)).mono fun p st' hp => by rw [hp.1, hp.2]; exact hk2
theorem o_callOwnP (hn : st.length = n0) (hk : l[k + nm]? = some .fresh) (ha : args.map (fun a => frzA (st ++ l) (ev ⟨f, st ++ l⟩ a)) = vs) (h : ∀ S, ACalls P g vs S (fun p st' => p = .own S.length 1 ∧ st' = S ++ [.row e 1 rows]))
    (hk2 : xrun P (.pre (n0 + k)) r K ⟨upd f d (.own (n0 + (k + nm)) 1), st ++ l.set (k + nm) (.row e 1 rows)⟩) : xrun P (.pre (n0 + k)) (⟨some d, .call g args, none, nm⟩ :: r) K ⟨f, st ++ l⟩ := by
  subst hn; subst ha
  show xopD P (.call g args) (st.length + k + nm) (fun v U _ => xpre P (st.length + k) r K ⟨upd f d v, setAll (st ++ l) U⟩) ⟨f, st ++ l⟩
  rw [Nat.add_assoc]
  have hfr : (st ++ l)[st.length + (k + nm)]? = some .fresh := (g_ext rfl _).trans hk
  refine ⟨.own (st.length + (k + nm)) 1, [(st.length + (k + nm), .row e 1 rows)], [st.length + (k + nm)], fun st2 h2 h3 => (h st2).mono fun p st' hp => .inr ⟨e, 1, rows, (h3 _ (by simp)).trans hfr, hp.1, hp.2, rfl, rfl⟩, ?_⟩
  simp only [setAll, s_ext rfl]
  exact hk2
variable {acc : Acc} {KA : Acc → XS → Prop}
theorem p_callOwn {R : List Nat} (hn : st.length = n0) (hk : l[k + nm]? = some .fresh) (ha : args.map (fun a => frzA (st ++ l) (ev ⟨f, st ++ l⟩ a)) = vs) (hR : tokArgs ⟨f, st ++ l⟩ args = R) (h : ∀ S, ACalls P g vs S (fun p st' => p = .own S.length 1 ∧ st' = S ++ [.row e 1 rows]))
    (hk2 : xacc P (n0 + k) r (acc ++ [([n0 + (k + nm)], ([n0 + (k + nm)] ++ [n0 + (k + nm)] ++ R))]) KA ⟨upd f d (.own (n0 + (k + nm)) 1), st ++ l.set (k + nm) (.row e 1 rows)⟩) : xacc P (n0 + k) (⟨some d, .call g args, none, nm⟩ :: r) acc KA ⟨f, st ++ l⟩ := by
  subst hn; subst ha; subst hR
  show xopD P (.call g args) (st.length + k + nm) (fun v U R => xacc P (st.length + k) r (acc ++ [(U.map (·.1), R)]) KA ⟨upd f d v, setAll (st ++ l) U⟩) ⟨f, st ++ l⟩
  rw [Nat.add_assoc]
  have hfr : (st ++ l)[st.length + (k + nm)]? = some .fresh := (g_ext rfl _).trans hk
  refine ⟨.own (st.length + (k + nm)) 1, [(st.length + (k + nm), .row e 1 rows)], [st.length + (k + nm)], fun st2 h2 h3 => (h st2).mono fun p st' hp => .inr ⟨e, 1, rows, (h3 _ (by simp)).trans hfr, hp.1, hp.2, rfl, rfl⟩, ?_⟩
  simp only [setAll, s_ext rfl]
  exact hk2
end

/-! keys in rising order -/
def insK (x : ByteArray) : List ByteArray → List ByteArray
  | [] => [x]
  | y :: l => if x.data.toList < y.data.toList then x :: y :: l else if x = y then y :: l else y :: insK x l
def sortK : List ByteArray → List ByteArray
  | [] => []
  | x :: l => insK x (sortK l)
def sortKeysL (ks : List ByteArray) : Option (List ByteArray) := if ks.length * 16 ≤ 140737488355328 then some (sortK ks) else none
theorem bytes_ext {x y : ByteArray} (h : x.data.toList = y.data.toList) : x = y := by
  have : x.data = y.data := Array.ext' h
  cases x; cases y; simp_all
theorem mem_insK {x s : ByteArray} : ∀ {l : List ByteArray}, s ∈ insK x l ↔ s = x ∨ s ∈ l
  | [] => by simp [insK]
  | y :: l => by
    rw [insK]
    split
    · simp
    · split
      · rename_i h; subst h; simp
      · rw [List.mem_cons, mem_insK, List.mem_cons]
        constructor
        · rintro (h | h | h)
          · exact .inr (.inl h)
          · exact .inl h
          · exact .inr (.inr h)
        · rintro (h | h | h)
          · exact .inr (.inl h)
          · exact .inl h
          · exact .inr (.inr h)
theorem mem_sortK {s : ByteArray} : ∀ {l : List ByteArray}, s ∈ sortK l ↔ s ∈ l
  | [] => by simp [sortK]
  | x :: l => by rw [sortK, mem_insK, mem_sortK, List.mem_cons]
theorem rising_insK {x : ByteArray} : ∀ {l : List ByteArray}, Rising l → Rising (insK x l)
  | [], _ => by simp [insK, Rising]
  | y :: l, h => by
    have h' := h
    unfold Rising at h'
    rw [List.pairwise_cons] at h'
    rw [insK]
    split
    · rename_i hlt
      unfold Rising
      rw [List.pairwise_cons]
      refine ⟨fun z hz => ?_, h⟩
      rcases List.mem_cons.1 hz with hz | hz
      · subst hz; exact hlt
      · exact List.lt_trans hlt (h'.1 z hz)
    · split
      · exact h
      · rename_i h1 h2
        unfold Rising
        rw [List.pairwise_cons]
        refine ⟨fun z hz => ?_, rising_insK h'.2⟩
        rcases mem_insK.1 hz with hz | hz
        · subst hz
          rcases Decidable.em (y.data.toList < z.data.toList) with h3 | h3
          · exact h3
          · exact absurd (bytes_ext (List.le_antisymm (List.not_lt.1 h3) (List.not_lt.1 h1))) (by simpa using h2)
        · exact h'.1 z hz
theorem rising_sortK : ∀ l : List ByteArray, Rising (sortK l)
  | [] => by simp [sortK, Rising]
  | x :: l => rising_insK (rising_sortK l)
theorem rising_ext : ∀ {a b : List ByteArray}, Rising a → Rising b → (∀ s, s ∈ a ↔ s ∈ b) → a = b
  | [], [], _, _, _ => rfl
  | [], y :: b, _, _, h => by have := (h y).2 (by simp); cases this
  | x :: a, [], _, _, h => by have := (h x).1 (by simp); cases this
  | x :: a, y :: b, ha, hb, h => by
    have ha' := ha; have hb' := hb
    unfold Rising at ha' hb'
    rw [List.pairwise_cons] at ha' hb'
    have hxy : x = y := by
      rcases List.mem_cons.1 ((h x).1 (by simp)) with e | e
      · exact e
      · rcases List.mem_cons.1 ((h y).2 (by simp)) with e2 | e2
        · exact e2.symm
        · exact absurd (hb'.1 x e) (List.lt_asymm (ha'.1 y e2))
    subst hxy
    rw [rising_ext ha'.2 hb'.2 fun s => ?_]
    have hs := h s
    rw [List.mem_cons, List.mem_cons] at hs
    constructor
    · intro hm
      rcases hs.1 (.inr hm) with e | e
      · subst e; exact absurd (ha'.1 s hm) (List.lt_irrefl _)
      · exact e
    · intro hm
      rcases hs.2 (.inr hm) with e | e
      · subst e; exact absurd (hb'.1 s hm) (List.lt_irrefl _)
      · exact e

section
variable {P : Program} {n : Nat} {f : Nat → PV} {B l : List Content} {n0 : Nat}
theorem gh_kill (i : Nat) (hn : B.length = n0) : Ghost P n ⟨f, B ++ l⟩ ⟨f, B ++ l.set i .dead⟩ := by
  have := Ghost.kill (P := P) (n := n) ⟨f, B ++ l⟩ (B.length + i)
  rw [s_ext rfl] at this
  exact this
theorem cut_own {B l0 l1 : List Content} {k n0 : Nat} (hB : WF B) (hn : B.length = n0) (hl : l0.length = k) (h0 : l0.map (cutC (n0 + k)) = l0) {st' : List Content} (hst : B ++ l0 = st') : cutS (n0 + k) (B ++ (l0 ++ l1)) = st' := by
  rw [← hst]; exact cut_keep hB hn hl h0
end
theorem own_end {R : PV → List Content → Prop} {p q : PV} {a b : List Content} (h1 : p = q) (h2 : a = b) (h : R q b) : R p a := by rw [h1, h2]; exact h
end Go.Ax
