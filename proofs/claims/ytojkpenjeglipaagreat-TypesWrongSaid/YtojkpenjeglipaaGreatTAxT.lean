import Derived.Test.YtojkpenjeglipaaGreatTAxS
set_option linter.unusedVariables false
namespace Go.Ax
abbrev Acc := List (List Nat × List Nat)
def DM (P : Program) (base : Nat) : List XI → Acc → (Acc → XS → Prop) → XS → Prop
 | [], acc, K, s => K acc s
 | i :: r, acc, K, s =>
   match i.guard with
   | none => Gp P i.op (base + i.nm) (fun v U R => DM P base r (acc ++ [(U.map (·.1), R)]) K (s.put i.dst v (CI s.st U))) s
   | some (t, want) => match s.r t with
     | .d (.bool b) => (b = want → Gp P i.op (base + i.nm) (fun v U R => DM P base r (acc ++ [(U.map (·.1), R)]) K (s.put i.dst v (CI s.st U))) s) ∧
         (b = !want → DM P base r (acc ++ [([], [])]) K (s.put i.dst (.tup []) s.st))
     | .tup [] => DM P base r (acc ++ [([], [])]) K (s.put i.dst (.tup []) s.st)
     | _ => False
def Ch (anc : List (List Nat)) : Nat → Acc → Acc → Prop
 | _, _, [] => True
 | k, done, (U, R) :: rest => okPairs (BP anc k) U R 0 done ∧ Ch anc (k + 1) (done ++ [(U, R)]) rest
section
variable {P : Program} {s : XS}
theorem Bk9 {o : XOp} {idx : Nat} {K : PV → List (Nat × Content) → List Nat → Prop} (hk : Gp P o idx K s) : ∃ v U R, K v U R := by
 by_cases hp : Dp o = true
 · have hk' : xop P o (fun v _ => K v [] (ER o s)) s := by cases o <;> first | exact hk | simp [Dp] at hp
   obtain ⟨v, h1, h2⟩ := Cc6 hp hk'
   exact ⟨v, [], _, h1⟩
 · cases o with
   | box x => exact ⟨_, _, _, hk.2.2⟩
   | alloc z => exact ⟨_, _, _, hk.2⟩
   | store size x y =>
     simp only [Gp] at hk
     split at hk
     · split at hk
       · exact ⟨_, _, _, hk.2.2.2⟩
       · exact hk.elim
     · exact hk.elim
   | append e size bytes x y =>
     simp only [Gp] at hk
     split at hk
     · obtain ⟨h1, hk⟩ := hk
       split at hk
       · exact ⟨_, _, _, hk.2.2.2⟩
       · split at hk
         · exact ⟨_, _, _, hk.2.2.2⟩
         · exact hk.elim
       · exact hk.elim
     · exact hk.elim
   | call f args =>
     obtain ⟨v, U, R, h1, h2⟩ := hk
     exact ⟨_, _, _, h2⟩
   | dyn x args =>
     simp only [Gp] at hk
     split at hk
     · obtain ⟨v, U, R, h1, h2⟩ := hk
       exact ⟨_, _, _, h2⟩
     · exact hk.elim
   | mapSet k e m x y =>
     simp only [Gp] at hk
     split at hk
     · split at hk
       · exact ⟨_, _, _, hk.2.2.2.2⟩
       · exact hk.elim
     · exact hk.elim
   | mkMap => exact hk.elim
   | eqNil => exact hk.elim
   | _ => simp [Dp] at hp
theorem Bi0 {base : Nat} {K : Acc → XS → Prop} : ∀ (is : List XI) (acc : Acc) (s : XS), DM P base is acc K s → ∃ more s', K (acc ++ more) s'
 | [], acc, s, h => ⟨[], s, by simpa [DM] using h⟩
 | i :: r, acc, s, h => by
   have go : ∀ p s1, DM P base r (acc ++ [p]) K s1 → ∃ more s', K (acc ++ more) s' := fun p s1 h1 => by
     obtain ⟨more, s', h2⟩ := Bi0 r _ s1 h1
     exact ⟨[p] ++ more, s', by rw [← List.append_assoc]; exact h2⟩
   simp only [DM] at h
   split at h
   · obtain ⟨v, U, R, h1⟩ := Bk9 h
     exact go _ _ h1
   · rename_i t want hg
     split at h
     · rename_i b hb
       by_cases hbw : b = want
       · obtain ⟨v, U, R, h1⟩ := Bk9 (h.1 hbw)
         exact go _ _ h1
       · exact go _ _ (h.2 (by cases b <;> cases want <;> simp_all))
     · exact go _ _ h
     · exact h.elim
theorem Jo {o : XOp} {idx : Nat} {K K' : PV → List (Nat × Content) → List Nat → Prop} (hk : Gp P o idx K s) (himp : ∀ v U R, K v U R → K' v U R) : Gp P o idx K' s := AN6 hk fun v U R _ _ h => himp v U R h
theorem Yy {anc : List (List Nat)} {base : Nat} {K : XS → Prop} : ∀ (is : List XI) (k : Nat) (acc : Acc) (s : XS), DM P base is acc (fun acc' s => (∃ more, acc' = acc ++ more ∧ Ch anc k acc more) ∧ K s) s → IS P anc base k is acc K s
 | [], k, acc, s, h => h.2
 | i :: r, k, acc, s, h => by
   have fit : ∀ p s1, DM P base r (acc ++ [p]) (fun acc' s => (∃ more, acc' = acc ++ more ∧ Ch anc k acc more) ∧ K s) s1 →
       okPairs (BP anc k) p.1 p.2 0 acc ∧ IS P anc base (k + 1) r (acc ++ [p]) K s1 := fun p s1 h1 => by
     have step : ∀ more, (∃ m2, acc ++ [p] ++ more = acc ++ m2 ∧ Ch anc k acc m2) → okPairs (BP anc k) p.1 p.2 0 acc ∧ Ch anc (k + 1) (acc ++ [p]) more := fun more ⟨m2, e, ho⟩ => by
       rw [List.append_assoc] at e
       have e2 := List.append_cancel_left e
       subst e2
       obtain ⟨U, R⟩ := p
       exact ⟨ho.1, ho.2⟩
     refine ⟨?_, Yy r (k + 1) (acc ++ [p]) s1 ?_⟩
     · obtain ⟨more, s', h2⟩ := Bi0 r _ s1 h1
       exact (step more h2.1).1
     · exact xacc_mono r _ s1 h1 fun more s' h2 => ⟨⟨more, rfl, (step more h2.1).2⟩, h2.2⟩
   simp only [DM] at h
   simp only [IS]
   split at h
   · rename_i hg
     simp only [hg]
     exact Jo h fun v U R h1 => fit (U.map (·.1), R) _ h1
   · rename_i t want hg
     simp only [hg]
     split at h
     · rename_i b hb
       simp only [hb]
       exact ⟨fun e => Jo (h.1 e) fun v U R h1 => fit (U.map (·.1), R) _ h1, fun e => fit ([], []) _ (h.2 e)⟩
     · rename_i hb
       simp only [hb]
       exact fit ([], []) _ h
     · exact h.elim
where
 xacc_mono {base : Nat} {K K' : Acc → XS → Prop} : ∀ (is : List XI) (acc : Acc) (s : XS), DM P base is acc K s → (∀ more s', K (acc ++ more) s' → K' (acc ++ more) s') → DM P base is acc K' s
   | [], acc, s, h, hi => by have h0 : K acc s := h; have := hi [] s (by simpa using h0); show K' acc s; simpa using this
   | i :: r, acc, s, h, hi => by
     have go : ∀ p s1, DM P base r (acc ++ [p]) K s1 → DM P base r (acc ++ [p]) K' s1 := fun p s1 h1 =>
       xacc_mono r _ s1 h1 fun more s' hk => by rw [List.append_assoc] at hk ⊢; exact hi _ s' hk
     simp only [DM] at h ⊢
     split at h
     · rename_i hg
       try simp only [hg]
       exact Jo h fun v U R h1 => go _ _ h1
     · rename_i t want hg
       try simp only [hg]
       split at h
       · rename_i b hb
         try simp only [hb]
         exact ⟨fun e => Jo (h.1 e) fun v U R h1 => go _ _ h1, fun e => go _ _ (h.2 e)⟩
       · rename_i hb
         try simp only [hb]
         exact go _ _ h
       · exact h.elim
theorem IM {n : Nat} {Q : XE → XS → Prop} {f : Nat → PV} {st l : List Content} {is : List XI} {anc : List (List Nat)} {nf n0 k : Nat} (hn : st.length = n0) (hk : l.length = k)
   (h : DM P (n0 + k) is [] (fun acc s => Ch anc 0 [] acc ∧ Q .normal s) ⟨f, st ++ (l ++ List.replicate nf .fresh)⟩) : BH P n (.regionD is anc nf) Q ⟨f, st ++ l⟩ := by
 subst hn; subst hk
 simp only [BH, List.append_assoc, List.length_append]
 exact Yy is 0 [] _ (Yy.xacc_mono is [] _ h fun more s' hk => ⟨⟨more, rfl, by simpa using hk.1⟩, hk.2⟩)
end
section
variable {P : Program} {base : Nat} {acc : Acc} {r : List XI} {K : Acc → XS → Prop} {f : Nat → PV} {st : List Content} {d nm : Nat}
theorem BH4 {o : XOp} {R : List Nat} (hp : Dp o = true) (hR : ER o ⟨f, st⟩ = R) (h : xop P o (fun v _ => DM P base r (acc ++ [([], R)]) K ⟨upd f d v, st⟩) ⟨f, st⟩) : DM P base (⟨some d, o, none, nm⟩ :: r) acc K ⟨f, st⟩ := by
 subst hR
 show Gp P o (base + nm) (fun v U R => DM P base r (acc ++ [(U.map (·.1), R)]) K ⟨upd f d v, CI st U⟩) ⟨f, st⟩
 cases o <;> first | exact h | simp [Dp] at hp
theorem BO (h : K acc ⟨f, st⟩) : DM P base [] acc K ⟨f, st⟩ := h
theorem KW {size : Nat} {x y : XA} {b off : Nat} {cells cs : List PV} (hx : ev ⟨f, st⟩ x = .ptr b off) (hb : st[b]? = some (.box cells)) {py : PV} (hy : ev ⟨f, st⟩ y = py) (hc : py.cells = cs) (hl : cs.length = size) (hl2 : off + size ≤ cells.length) (h1 : cs.all PV.one = true)
   {cells' : List PV} (hs : splice cells off cs = cells') {st' : List Content} (hst : st.set b (.box cells') = st') (h : DM P base r (acc ++ [([b], [b])]) K ⟨f, st'⟩) : DM P base (⟨none, .store size x y, none, nm⟩ :: r) acc K ⟨f, st⟩ := by
 subst hy; subst hc; subst hs; subst hst
 simp only [DM, Gp, hx, hb]; exact ⟨hl, hl2, h1, h⟩
theorem F9 {g : FuncId} {args : List XA} {vs : List PV} {v : PV} {R : List Nat} (ha : args.map (fun a => Dh st (ev ⟨f, st⟩ a)) = vs) (hR : CO ⟨f, st⟩ args = R) (h : ∀ st2, Aw P g vs st2 (fun p st' => p = v ∧ st' = st2)) (hk : DM P base r (acc ++ [([], R)]) K ⟨upd f d v, st⟩) : DM P base (⟨some d, .call g args, none, nm⟩ :: r) acc K ⟨f, st⟩ := by
 subst ha; subst hR
 exact ⟨v, [], [], fun st2 _ _ => (h st2).mono fun p st' hp => .inl hp, hk⟩
variable {l : List Content} {n0 k : Nat}
theorem AT {o : XOp} {ds : Option Nat} {t : Nat} {want : Bool} (ht : f t = .d (.bool want)) (h : DM P base (⟨ds, o, none, nm⟩ :: r) acc K ⟨f, st⟩) : DM P base (⟨ds, o, some (t, want), nm⟩ :: r) acc K ⟨f, st⟩ := by
 simp only [DM, ht]; exact ⟨fun _ => h, fun e => (by cases want <;> cases e)⟩
theorem Av {o : XOp} {t : Nat} {want : Bool} (ht : f t = .d (.bool (!want))) (h : DM P base r (acc ++ [([], [])]) K ⟨upd f d (.tup []), st⟩) : DM P base (⟨some d, o, some (t, want), nm⟩ :: r) acc K ⟨f, st⟩ := by
 simp only [DM, ht]; exact ⟨fun e => (by cases want <;> cases e), fun _ => h⟩
theorem AV {o : XOp} {t : Nat} {want : Bool} (ht : f t = .tup []) (h : DM P base r (acc ++ [([], [])]) K ⟨upd f d (.tup []), st⟩) : DM P base (⟨some d, o, some (t, want), nm⟩ :: r) acc K ⟨f, st⟩ := by
 simp only [DM, ht]; exact h
end
section
variable {st l : List Content} {x n0 : Nat} {c0 c c' : Content}
end
section
variable {s : XS} {f : Nat → PV} {st : List Content} {n off size : Nat} {a : XA} {r : List (Nat × Nat × XA)} {p : PV} {cs acc acc' out : List PV}
theorem Ae4 : DU s n [] := trivial
theorem DZ (h : ev ⟨f, st⟩ a = p) (hc : p.cells = cs) (hl : (cs.length == size) = true) (hle : off + size ≤ n) (h1 : cs.all PV.one = true) (hr : DU ⟨f, st⟩ n r) : DU ⟨f, st⟩ n ((off, size, a) :: r) := by
 subst h; subst hc
 exact ⟨by simpa using hl, hle, h1, hr⟩
theorem Ab6 : Gk s acc [] = acc := rfl
theorem DX (h : ev ⟨f, st⟩ a = p) (hc : p.cells = cs) (hs : splice acc off cs = acc') (hr : Gk ⟨f, st⟩ acc' r = out) : Gk ⟨f, st⟩ acc ((off, size, a) :: r) = out := by
 subst h; subst hc; subst hs; exact hr
end
section
variable {st : List Content} {x : D} {ps qs : List PV} {rows : List (List D)}
theorem G8 : JH st (.d x) = .d x := rfl
theorem Ck3 : JH st (.ex rows) = .d (.sl rows) := rfl
theorem Bk6 (h : ps.map (frz st) = qs) : JH st (.agg ps) = .agg qs := by subst h; rfl
theorem JU {n : Nat} {p p' : PV} {more : List PV} (h : (p :: p' :: more).map (JH st) = qs) (hb : AP.belowL n qs = true) : cutV n (Dh st (FZ (p :: p' :: more))) = .tup qs := by
 subst h
 exact Cj7 hb
theorem JW : [].map (JH st) = [] := rfl
theorem Bm {p q : PV} (h : JH st p = q) (hr : ps.map (JH st) = qs) : (p :: ps).map (JH st) = q :: qs := by subst h; subst hr; rfl
end
def Ext (st st' : List Content) : Prop := ∃ ex, st' = st ++ ex
theorem Ext.refl (st : List Content) : Ext st st := ⟨[], by simp⟩
theorem Ext.base (st l : List Content) : Ext st (st ++ l) := ⟨l, rfl⟩
theorem Ext.app {st st' : List Content} (h : Ext st st') (l : List Content) : Ext st (st' ++ l) := by obtain ⟨ex, rfl⟩ := h; exact ⟨ex ++ l, by simp⟩
theorem Ext.set {st st' : List Content} {x : Nat} {c : Content} (h : Ext st st') (hx : st.length ≤ x) : Ext st (st'.set x c) := by
 obtain ⟨ex, rfl⟩ := h
 exact ⟨ex.set (x - st.length) c, by rw [List.set_append_right _ _ hx]⟩
theorem Ext.len {st st' : List Content} (h : Ext st st') : st.length ≤ st'.length := by obtain ⟨ex, rfl⟩ := h; simp
theorem Aw3 {st : List Content} {x : Nat} {c c0 : Content} (h : st[x]? = some c0) : (st.set x c)[x]? = some c := by
 have := (List.getElem?_eq_some_iff.1 h).1; simp [this]
section
variable {f : Nat → PV} {st : List Content} {a : XA} {l : List XA} {p : PV} {r1 r2 : List Nat}
theorem BM9 {s : XS} : NL s [] = [] := rfl
theorem AD3 (h : ev ⟨f, st⟩ a = p) (ht : Bg3 p.cells = r1) (hr : NL ⟨f, st⟩ l = r2) : NL ⟨f, st⟩ (a :: l) = r1 ++ r2 := by subst h; subst ht; subst hr; rfl
theorem F1 {s : XS} : CO s [] = [] := rfl
theorem B2 (h : ev ⟨f, st⟩ a = p) (ht : Cg6 p = r1) (hr : CO ⟨f, st⟩ l = r2) : CO ⟨f, st⟩ (a :: l) = r1 ++ r2 := by subst h; subst ht; subst hr; rfl
end
end Go.Ax
