import Derived.Test.YtojkpenjeglipaaIAxS
set_option linter.unusedVariables false
set_option linter.unusedSimpArgs false
namespace Go.Ax
abbrev Acc := List (List Nat × List Nat)
def CF (P : Program) (base : Nat) : List XI → Acc → (Acc → XS → Prop) → XS → Prop
 | [], acc, K, s => K acc s
 | i :: r, acc, K, s =>
   match i.guard with
   | none => G1 P i.op (base + i.nm) (fun v U R => CF P base r (acc ++ [(U.map (·.1), R)]) K (s.put i.dst v (Dn s.st U))) s
   | some (t, want) => match s.r t with
     | .d (.bool b) => (b = want → G1 P i.op (base + i.nm) (fun v U R => CF P base r (acc ++ [(U.map (·.1), R)]) K (s.put i.dst v (Dn s.st U))) s) ∧
         (b = !want → CF P base r (acc ++ [([], [])]) K (s.put i.dst (.tup []) s.st))
     | .tup [] => CF P base r (acc ++ [([], [])]) K (s.put i.dst (.tup []) s.st)
     | _ => False
def BV (anc : List (List Nat)) : Nat → Acc → Acc → Prop
 | _, _, [] => True
 | k, done, (U, R) :: rest => okPairs (BS anc k) U R 0 done ∧ BV anc (k + 1) (done ++ [(U, R)]) rest
section
variable {P : Program} {s : XS}
theorem Yt {o : XOp} {idx : Nat} {K : PV → List (Nat × Content) → List Nat → Prop} (hk : G1 P o idx K s) : ∃ v U R, K v U R := by
 by_cases hp : Dk o = true
 · have hk' : xop P o (fun v _ => K v [] (Fx o s)) s := by cases o <;> first | exact hk | simp [Dk] at hp
   obtain ⟨v, h1, h2⟩ := AN0 hp hk'
   exact ⟨v, [], _, h1⟩
 · cases o with
   | box x => exact ⟨_, _, _, hk.2.2⟩
   | alloc z => exact ⟨_, _, _, hk.2⟩
   | store size x y =>
     simp only [G1] at hk
     split at hk
     · split at hk
       · exact ⟨_, _, _, hk.2.2.2⟩
       · exact hk.elim
     · exact hk.elim
   | append e size bytes x y =>
     simp only [G1] at hk
     split at hk
     · obtain ⟨h1, hk⟩ := hk
       split at hk
       · exact ⟨_, _, _, hk.2.2.2⟩
       · split at hk
         · exact ⟨_, _, _, hk.2.2.2⟩
         · exact hk.elim
       · exact hk.elim
     · exact hk.elim
   | call f args =>
     obtain ⟨v, U, R, h1, h2⟩ := hk
     exact ⟨_, _, _, h2⟩
   | dyn x args =>
     simp only [G1] at hk
     split at hk
     · obtain ⟨v, U, R, h1, h2⟩ := hk
       exact ⟨_, _, _, h2⟩
     · exact hk.elim
   | mapSet k e m x y =>
     simp only [G1] at hk
     split at hk
     · split at hk
       · exact ⟨_, _, _, hk.2.2.2.2⟩
       · exact hk.elim
     · exact hk.elim
   | mkMap => exact hk.elim
   | eqNil => exact hk.elim
   | _ => simp [Dk] at hp
theorem Zn {base : Nat} {K : Acc → XS → Prop} : ∀ (is : List XI) (acc : Acc) (s : XS), CF P base is acc K s → ∃ more s', K (acc ++ more) s'
 | [], acc, s, h => ⟨[], s, by simpa [CF] using h⟩
 | i :: r, acc, s, h => by
   have go : ∀ p s1, CF P base r (acc ++ [p]) K s1 → ∃ more s', K (acc ++ more) s' := fun p s1 h1 => by
     obtain ⟨more, s', h2⟩ := Zn r _ s1 h1
     exact ⟨[p] ++ more, s', by rw [← List.append_assoc]; exact h2⟩
   simp only [CF] at h
   split at h
   · obtain ⟨v, U, R, h1⟩ := Yt h
     exact go _ _ h1
   · rename_i t want hg
     split at h
     · rename_i b hb
       by_cases hbw : b = want
       · obtain ⟨v, U, R, h1⟩ := Yt (h.1 hbw)
         exact go _ _ h1
       · exact go _ _ (h.2 (by cases b <;> cases want <;> simp_all))
     · exact go _ _ h
     · exact h.elim
theorem Ic {o : XOp} {idx : Nat} {K K' : PV → List (Nat × Content) → List Nat → Prop} (hk : G1 P o idx K s) (himp : ∀ v U R, K v U R → K' v U R) : G1 P o idx K' s := Vq hk fun v U R _ _ h => himp v U R h
theorem OJ {anc : List (List Nat)} {base : Nat} {K : XS → Prop} : ∀ (is : List XI) (k : Nat) (acc : Acc) (s : XS), CF P base is acc (fun acc' s => (∃ more, acc' = acc ++ more ∧ BV anc k acc more) ∧ K s) s → Ja P anc base k is acc K s
 | [], k, acc, s, h => h.2
 | i :: r, k, acc, s, h => by
   have fit : ∀ p s1, CF P base r (acc ++ [p]) (fun acc' s => (∃ more, acc' = acc ++ more ∧ BV anc k acc more) ∧ K s) s1 →
       okPairs (BS anc k) p.1 p.2 0 acc ∧ Ja P anc base (k + 1) r (acc ++ [p]) K s1 := fun p s1 h1 => by
     have step : ∀ more, (∃ m2, acc ++ [p] ++ more = acc ++ m2 ∧ BV anc k acc m2) → okPairs (BS anc k) p.1 p.2 0 acc ∧ BV anc (k + 1) (acc ++ [p]) more := fun more ⟨m2, e, ho⟩ => by
       rw [List.append_assoc] at e
       have e2 := List.append_cancel_left e
       subst e2
       obtain ⟨U, R⟩ := p
       exact ⟨ho.1, ho.2⟩
     refine ⟨?_, OJ r (k + 1) (acc ++ [p]) s1 ?_⟩
     · obtain ⟨more, s', h2⟩ := Zn r _ s1 h1
       exact (step more h2.1).1
     · exact xacc_mono r _ s1 h1 fun more s' h2 => ⟨⟨more, rfl, (step more h2.1).2⟩, h2.2⟩
   simp only [CF] at h
   simp only [Ja]
   split at h
   · rename_i hg
     simp only [hg]
     exact Ic h fun v U R h1 => fit (U.map (·.1), R) _ h1
   · rename_i t want hg
     simp only [hg]
     split at h
     · rename_i b hb
       simp only [hb]
       exact ⟨fun e => Ic (h.1 e) fun v U R h1 => fit (U.map (·.1), R) _ h1, fun e => fit ([], []) _ (h.2 e)⟩
     · rename_i hb
       simp only [hb]
       exact fit ([], []) _ h
     · exact h.elim
where
 xacc_mono {base : Nat} {K K' : Acc → XS → Prop} : ∀ (is : List XI) (acc : Acc) (s : XS), CF P base is acc K s → (∀ more s', K (acc ++ more) s' → K' (acc ++ more) s') → CF P base is acc K' s
   | [], acc, s, h, hi => by have h0 : K acc s := h; have := hi [] s (by simpa using h0); show K' acc s; simpa using this
   | i :: r, acc, s, h, hi => by
     have go : ∀ p s1, CF P base r (acc ++ [p]) K s1 → CF P base r (acc ++ [p]) K' s1 := fun p s1 h1 =>
       xacc_mono r _ s1 h1 fun more s' hk => by rw [List.append_assoc] at hk ⊢; exact hi _ s' hk
     simp only [CF] at h ⊢
     split at h
     · rename_i hg
       try simp only [hg]
       exact Ic h fun v U R h1 => go _ _ h1
     · rename_i t want hg
       try simp only [hg]
       split at h
       · rename_i b hb
         try simp only [hb]
         exact ⟨fun e => Ic (h.1 e) fun v U R h1 => go _ _ h1, fun e => go _ _ (h.2 e)⟩
       · rename_i hb
         try simp only [hb]
         exact go _ _ h
       · exact h.elim
theorem Hb {n : Nat} {Q : XE → XS → Prop} {f : Nat → PV} {st l : List Content} {is : List XI} {anc : List (List Nat)} {nf n0 k : Nat} (hn : st.length = n0) (hk : l.length = k)
   (h : CF P (n0 + k) is [] (fun acc s => BV anc 0 [] acc ∧ Q .normal s) ⟨f, st ++ (l ++ List.replicate nf .fresh)⟩) : BL P n (.regionD is anc nf) Q ⟨f, st ++ l⟩ := by
 subst hn; subst hk
 simp only [BL, List.append_assoc, List.length_append]
 exact OJ is 0 [] _ (OJ.xacc_mono is [] _ h fun more s' hk => ⟨⟨more, rfl, by simpa using hk.1⟩, hk.2⟩)
end
section
variable {P : Program} {base : Nat} {acc : Acc} {r : List XI} {K : Acc → XS → Prop} {f : Nat → PV} {st : List Content} {d nm : Nat}
theorem Aw2 {o : XOp} {R : List Nat} (hp : Dk o = true) (hR : Fx o ⟨f, st⟩ = R) (h : xop P o (fun v _ => CF P base r (acc ++ [([], R)]) K ⟨upd f d v, st⟩) ⟨f, st⟩) : CF P base (⟨some d, o, none, nm⟩ :: r) acc K ⟨f, st⟩ := by
 subst hR
 show G1 P o (base + nm) (fun v U R => CF P base r (acc ++ [(U.map (·.1), R)]) K ⟨upd f d v, Dn st U⟩) ⟨f, st⟩
 cases o <;> first | exact h | simp [Dk] at hp
theorem BC (h : K acc ⟨f, st⟩) : CF P base [] acc K ⟨f, st⟩ := h
theorem Iu {size : Nat} {x y : XA} {b off : Nat} {cells cs : List PV} (hx : ev ⟨f, st⟩ x = .ptr b off) (hb : st[b]? = some (.box cells)) {py : PV} (hy : ev ⟨f, st⟩ y = py) (hc : py.cells = cs) (hl : cs.length = size) (hl2 : off + size ≤ cells.length) (h1 : cs.all PV.one = true)
   {cells' : List PV} (hs : splice cells off cs = cells') {st' : List Content} (hst : st.set b (.box cells') = st') (h : CF P base r (acc ++ [([b], [b])]) K ⟨f, st'⟩) : CF P base (⟨none, .store size x y, none, nm⟩ :: r) acc K ⟨f, st⟩ := by
 subst hy; subst hc; subst hs; subst hst
 simp only [CF, G1, hx, hb]; exact ⟨hl, hl2, h1, h⟩
theorem AJ0 {kt e : TypeId} {mm x y : XA} {t : Nat} {b : ByteArray} {v : Bool} {ks : List ByteArray} (hm : ev ⟨f, st⟩ mm = .map t) (hx : ev ⟨f, st⟩ x = .d (.str b)) (hy : ev ⟨f, st⟩ y = .d (.bool v)) (ht : st[t]? = some (.map kt e ks))
   (hb : b.size ≤ 9223372036854775807) (hn : ks.length < 9223372036854775807) {st' : List Content} (hst : st.set t (.map kt e (ks ++ [b])) = st') (h : CF P base r (acc ++ [([t], [t])]) K ⟨f, st'⟩) : CF P base (⟨none, .mapSet kt e mm x y, none, nm⟩ :: r) acc K ⟨f, st⟩ := by
 subst hst
 simp only [CF, G1, hm, hx, hy, ht]; exact ⟨trivial, trivial, hb, hn, h⟩
theorem F1 {g : FuncId} {args : List XA} {vs : List PV} {v : PV} {R : List Nat} (ha : args.map (fun a => Dt st (ev ⟨f, st⟩ a)) = vs) (hR : Cv ⟨f, st⟩ args = R) (h : ∀ st2, Aw P g vs st2 (fun p st' => p = v ∧ st' = st2)) (hk : CF P base r (acc ++ [([], R)]) K ⟨upd f d v, st⟩) : CF P base (⟨some d, .call g args, none, nm⟩ :: r) acc K ⟨f, st⟩ := by
 subst ha; subst hR
 exact ⟨v, [], [], fun st2 _ _ => (h st2).mono fun p st' hp => .inl hp, hk⟩
variable {l : List Content} {n0 k : Nat}
theorem AP9 {e size bytes : Nat} {x y : XA} {rows ys : List (List D)} (hn : st.length = n0) (hk : l[k + nm]? = some .fresh) {py : PV} (hpy : ev ⟨f, st ++ l⟩ y = py) (hy : A6 (st ++ l) py = some ys) (hz : ∀ row, row ∈ ys → row.length = size) (hx : ev ⟨f, st ++ l⟩ x = .ex rows) (hzx : ∀ row, row ∈ rows → row.length = size) (hb : (rows.length + ys.length) * bytes ≤ 140737488355328)
   (h : CF P (n0 + k) r (acc ++ [([n0 + (k + nm)], (n0 + (k + nm)) :: JC py)]) K ⟨upd f d (.own (n0 + (k + nm)) 1), st ++ l.set (k + nm) (.row e 1 (rows ++ ys))⟩) : CF P (n0 + k) (⟨some d, .append e size bytes x y, none, nm⟩ :: r) acc K ⟨f, st ++ l⟩ := by
 subst hn; subst hpy
 show G1 P (.append e size bytes x y) (st.length + k + nm) (fun v U R => CF P (st.length + k) r (acc ++ [(U.map (·.1), R)]) K ⟨upd f d v, Dn (st ++ l) U⟩) ⟨f, st ++ l⟩
 rw [Nat.add_assoc]
 simp only [G1, hx, hy]
 refine ⟨hz, (Am rfl _).trans hk, hzx, hb, ?_⟩
 simp only [Dn, Bk rfl]
 exact h
theorem AQ6 {e size bytes : Nat} {x y : XA} {t ver : Nat} {rows ys : List (List D)} {py : PV} (hpy : ev ⟨f, st⟩ y = py) (hy : A6 st py = some ys) (hz : ∀ row, row ∈ ys → row.length = size) (hx : ev ⟨f, st⟩ x = .own t ver) (ht : st[t]? = some (.row e ver rows)) (hb : (rows.length + ys.length) * bytes ≤ 140737488355328)
   {st' : List Content} (hst : st.set t (.row e (ver + 1) (rows ++ ys)) = st') (h : CF P base r (acc ++ [([t], t :: JC py)]) K ⟨upd f d (.own t (ver + 1)), st'⟩) : CF P base (⟨some d, .append e size bytes x y, none, nm⟩ :: r) acc K ⟨f, st⟩ := by
 subst hst; subst hpy
 simp only [CF, G1, hx, hy, ht]; exact ⟨hz, trivial, trivial, hb, h⟩
theorem AY {o : XOp} {ds : Option Nat} {t : Nat} {want : Bool} (ht : f t = .d (.bool want)) (h : CF P base (⟨ds, o, none, nm⟩ :: r) acc K ⟨f, st⟩) : CF P base (⟨ds, o, some (t, want), nm⟩ :: r) acc K ⟨f, st⟩ := by
 simp only [CF, ht]; exact ⟨fun _ => h, fun e => (by cases want <;> cases e)⟩
theorem Az {o : XOp} {t : Nat} {want : Bool} (ht : f t = .d (.bool (!want))) (h : CF P base r (acc ++ [([], [])]) K ⟨upd f d (.tup []), st⟩) : CF P base (⟨some d, o, some (t, want), nm⟩ :: r) acc K ⟨f, st⟩ := by
 simp only [CF, ht]; exact ⟨fun e => (by cases want <;> cases e), fun _ => h⟩
theorem A2 {o : XOp} {t : Nat} {want : Bool} (ht : f t = .tup []) (h : CF P base r (acc ++ [([], [])]) K ⟨upd f d (.tup []), st⟩) : CF P base (⟨some d, o, some (t, want), nm⟩ :: r) acc K ⟨f, st⟩ := by
 simp only [CF, ht]; exact h
end
section
variable {st l : List Content} {x n0 : Nat} {c0 c c' : Content}
end
section
variable {s : XS} {f : Nat → PV} {st : List Content} {n off size : Nat} {a : XA} {r : List (Nat × Nat × XA)} {p : PV} {cs acc acc' out : List PV}
theorem Kp : Do s n [] := trivial
theorem Cl (h : ev ⟨f, st⟩ a = p) (hc : p.cells = cs) (hl : (cs.length == size) = true) (hle : off + size ≤ n) (h1 : cs.all PV.one = true) (hr : Do ⟨f, st⟩ n r) : Do ⟨f, st⟩ n ((off, size, a) :: r) := by
 subst h; subst hc
 exact ⟨by simpa using hl, hle, h1, hr⟩
theorem Kt : Ft s acc [] = acc := rfl
theorem Ck (h : ev ⟨f, st⟩ a = p) (hc : p.cells = cs) (hs : splice acc off cs = acc') (hr : Ft ⟨f, st⟩ acc' r = out) : Ft ⟨f, st⟩ acc ((off, size, a) :: r) = out := by
 subst h; subst hc; subst hs; exact hr
end
section
variable {st : List Content} {x : D} {ps qs : List PV} {rows : List (List D)}
theorem FS : Ht st (.d x) = .d x := rfl
theorem Xx (h : ps.map (frz st) = qs) : Ht st (.agg ps) = .agg qs := by subst h; rfl
theorem HE {n : Nat} {p p' : PV} {more : List PV} (h : (p :: p' :: more).map (Ht st) = qs) (hb : AJ.belowL n qs = true) : cutV n (Dt st (G2 (p :: p' :: more))) = .tup qs := by
 subst h
 exact AR7 hb
theorem Hz : [].map (Ht st) = [] := rfl
theorem Br {p q : PV} (h : Ht st p = q) (hr : ps.map (Ht st) = qs) : (p :: ps).map (Ht st) = q :: qs := by subst h; subst hr; rfl
end
def Ext (st st' : List Content) : Prop := ∃ ex, st' = st ++ ex
theorem Ext.refl (st : List Content) : Ext st st := ⟨[], by simp⟩
theorem Ext.base (st l : List Content) : Ext st (st ++ l) := ⟨l, rfl⟩
theorem Ext.app {st st' : List Content} (h : Ext st st') (l : List Content) : Ext st (st' ++ l) := by obtain ⟨ex, rfl⟩ := h; exact ⟨ex ++ l, by simp⟩
theorem Ext.set {st st' : List Content} {x : Nat} {c : Content} (h : Ext st st') (hx : st.length ≤ x) : Ext st (st'.set x c) := by
 obtain ⟨ex, rfl⟩ := h
 exact ⟨ex.set (x - st.length) c, by rw [List.set_append_right _ _ hx]⟩
theorem Ext.len {st st' : List Content} (h : Ext st st') : st.length ≤ st'.length := by obtain ⟨ex, rfl⟩ := h; simp
theorem Bd {st : List Content} {x y : Nat} {c c0 : Content} (h : st[x]? = some c0) (hne : (y == x) = false) : (st.set y c)[x]? = some c0 := by
 rw [List.getElem?_set_ne (by simpa using hne)]; exact h
theorem CT {st : List Content} {x : Nat} {c c0 : Content} (h : st[x]? = some c0) : (st.set x c)[x]? = some c := by
 have := (List.getElem?_eq_some_iff.1 h).1; simp [this]
section
variable {f : Nat → PV} {st : List Content} {a : XA} {l : List XA} {p : PV} {r1 r2 : List Nat}
theorem Ai1 {s : XS} : I1 s [] = [] := rfl
theorem U5 (h : ev ⟨f, st⟩ a = p) (ht : Zm p.cells = r1) (hr : I1 ⟨f, st⟩ l = r2) : I1 ⟨f, st⟩ (a :: l) = r1 ++ r2 := by subst h; subst ht; subst hr; rfl
theorem FC {s : XS} : Cv s [] = [] := rfl
theorem Cb (h : ev ⟨f, st⟩ a = p) (ht : AO9 p = r1) (hr : Cv ⟨f, st⟩ l = r2) : Cv ⟨f, st⟩ (a :: l) = r1 ++ r2 := by subst h; subst ht; subst hr; rfl
end
end Go.Ax
