import Derived.Test.YtojkpenjeglipaaGreatTAxVj
set_option linter.unusedVariables false
namespace Go.Ax
open Go.RowKit
section
variable {P : Program} {s s2 : XS}
theorem Be {x : XA} (h : ∀ t, t ∈ FE x → s2.r t = s.r t) : ev s2 x = ev s x := by
 cases x with
 | t i => exact h i (by simp [FE])
 | c p => rfl
theorem AP3 : ∀ {xs : List XA}, (∀ t, t ∈ DB xs → s2.r t = s.r t) → xs.map (ev s2) = xs.map (ev s)
 | [], _ => rfl
 | x :: r, h => by
   rw [List.map_cons, List.map_cons, Be (fun t ht => h t (by simp [DB, ht])), AP3 (fun t ht => h t (by simp [DB, ht]))]
theorem AT4 : ∀ {ps : List (Nat × Nat × XA)} (acc : List PV) (n : Nat), (∀ t, t ∈ Al1 ps → s2.r t = s.r t) → Gk s2 acc ps = Gk s acc ps ∧ (DU s2 n ps ↔ DU s n ps)
 | [], acc, n, _ => ⟨rfl, Iff.rfl⟩
 | (off, size, x) :: r, acc, n, h => by
   have e := Be (x := x) (s := s) (s2 := s2) (fun t ht => h t (by simp [Al1, ht]))
   have ih := fun acc => AT4 (ps := r) acc n (fun t ht => h t (by simp [Al1, ht]))
   simp only [Gk, DU, e]
   exact ⟨(ih _).1, by rw [(ih acc).2]⟩
theorem Am4 {st st2 : List Content} {p : PV} (h : ∀ b, b ∈ SV p → st2[b]? = st[b]?) : frz st2 p = frz st p := by
 cases p with
 | own t ver => simp only [frz]; rw [h t (by simp [SV])]
 | _ => rfl
theorem K4 {st st2 : List Content} {p : PV} (h : ∀ b, b ∈ SV p → st2[b]? = st[b]?) : A4 st2 p = A4 st p := by
 cases p with
 | own t ver => simp only [A4]; rw [h t (by simp [SV])]
 | d x => cases x <;> rfl
 | _ => rfl
theorem Ar7 {st st2 : List Content} : ∀ {ps : List PV}, (∀ b, b ∈ Bg3 ps → st2[b]? = st[b]?) → ps.map (frz st2) = ps.map (frz st)
 | [], _ => rfl
 | p :: r, h => by rw [List.map_cons, List.map_cons, Am4 (fun t ht => h t (by simp [Bg3, ht])), Ar7 (fun t ht => h t (by simp [Bg3, ht]))]
theorem Bk7 {st st2 : List Content} : ∀ {ps : List PV}, (∀ b, b ∈ Bg3 ps → st2[b]? = st[b]?) → Ie st2 ps = Ie st ps
 | [], _ => rfl
 | p :: r, h => by
   simp only [Ie, toD]
   rw [Am4 (fun t ht => h t (by simp [Bg3, ht])), Bk7 (fun t ht => h t (by simp [Bg3, ht]))]
theorem Az6 {size : Nat} : ∀ {xs : List XA}, (∀ t, t ∈ DB xs → s2.r t = s.r t) → (∀ b, b ∈ NL s xs → s2.st[b]? = s.st[b]?) → C2 s2 size xs = C2 s size xs
 | [], _, _ => rfl
 | x :: r, h, k => by
   simp only [C2]
   rw [Be (fun t ht => h t (by simp [DB, ht])), Bk7 (fun t ht => k t (by simp [NL, ht])), Az6 (fun t ht => h t (by simp [DB, ht])) (fun t ht => k t (by simp [NL, ht]))]
theorem BK7 {st st2 : List Content} {p : PV} (h : ∀ b, b ∈ Bu9 [p] → st2[b]? = st[b]?) : JH st2 p = JH st p := by
 cases p with
 | agg ds => simp only [JH, Ar7 (ps := ds) (st := st) (st2 := st2) (fun t ht => h t (by simp [Bu9, ht]))]
 | own t ver => exact Am4 (p := .own t ver) (fun b hb => h b (by simpa [Bu9] using hb))
 | _ => rfl
theorem Bj2 {st st2 : List Content} : ∀ {ps : List PV}, (∀ b, b ∈ Bu9 ps → st2[b]? = st[b]?) → ps.map (JH st2) = ps.map (JH st)
 | [], _ => rfl
 | p :: r, h => by
   have ih := Bj2 (ps := r) (st := st) (st2 := st2) (fun t ht => h t (by cases p <;> simp [Bu9, ht]))
   have e := BK7 (p := p) (st := st) (st2 := st2) (fun t ht => h t (by cases p <;> simp [Bu9] at ht ⊢ <;> simp [ht]))
   rw [List.map_cons, List.map_cons, ih, e]
theorem BK0 {st st2 : List Content} {p : PV} (h : ∀ b, b ∈ Cg6 p → st2[b]? = st[b]?) : Dh st2 p = Dh st p := by
 cases p with
 | agg ps => simp only [Dh, Ar7 h]
 | tup ps => simp only [Dh, Bj2 h]
 | own t ver => exact Am4 (p := .own t ver) h
 | _ => rfl
theorem At7 : ∀ {xs : List XA}, (∀ t, t ∈ DB xs → s2.r t = s.r t) → (∀ b, b ∈ CO s xs → s2.st[b]? = s.st[b]?) → xs.map (fun a => Dh s2.st (ev s2 a)) = xs.map (fun a => Dh s.st (ev s a))
 | [], _, _ => rfl
 | x :: r, h, k => by
   rw [List.map_cons, List.map_cons, Be (fun t ht => h t (by simp [DB, ht])), BK0 (fun t ht => k t (by simp [CO, ht])), At7 (fun t ht => h t (by simp [DB, ht])) (fun t ht => k t (by simp [CO, ht]))]
theorem W4 {dflt : Int} {K : Int → Prop} {x : Option XA} (h : ∀ t, t ∈ WD x → s2.r t = s.r t) : bnd s2 dflt K x = bnd s dflt K x := by
 cases x with
 | none => rfl
 | some a => simp only [bnd]; rw [Be h]
theorem Bs2 {mx : Bool} {K : Int → Prop} {k : IntKind} : ∀ {xs : List XA} (n : Int), (∀ t, t ∈ DB xs → s2.r t = s.r t) → mmD mx s2 n xs K k = mmD mx s n xs K k
 | [], _, _ => rfl
 | x :: r, n, h => by
   have e := Be (x := x) (s := s) (s2 := s2) (fun t ht => h t (by simp [DB, ht]))
   have ih := fun n => Bs2 (mx := mx) (K := K) (k := k) (xs := r) n (fun t ht => h t (by simp [DB, ht]))
   simp only [mmD, e, ih]
def Dp : XOp → Bool
 | .box _ | .alloc _ | .store .. | .append .. | .call .. | .dyn .. | .mkMap .. | .mapSet .. | .eqNil .. => false
 | _ => true
theorem Cb3 {o : XOp} (hp : Dp o = true) (hm : ∀ t, t ∈ ments o → s2.r t = s.r t) (hr : ∀ b, b ∈ ER o s → s2.st[b]? = s.st[b]?) (K : PV → List Content → Prop) : xop P o K s2 = xop P o (fun v _ => K v s2.st) s := by
 cases o with
 | box | alloc | store | append | call | dyn => simp [Dp] at hp
 | move x => simp only [xop, Be hm]
 | pick c a b =>
   have e1 := Be (x := c) (s := s) (s2 := s2) (fun t ht => hm t (by simp [ments, ht]))
   have e2 := Be (x := a) (s := s) (s2 := s2) (fun t ht => hm t (by simp [ments, ht]))
   have e3 := Be (x := b) (s := s) (s2 := s2) (fun t ht => hm t (by simp [ments, ht]))
   simp only [xop, e1, e2, e3]
 | build zero parts =>
   have e := fun acc n => AT4 (s := s) (s2 := s2) (ps := parts) acc n hm
   simp only [xop, (e zero zero.length).1, propext (e zero zero.length).2]
 | buildSlice size parts =>
   have e := Az6 (s := s) (s2 := s2) (size := size) (xs := parts) hm hr
   simp only [xop, e]
 | load agg size x =>
   have e := Be (x := x) (s := s) (s2 := s2) hm
   simp only [xop, e]
   simp only [ER] at hr
   cases hev : ev s x with
   | ptr b off =>
     rw [hev] at hr
     simp only [hr b (by simp)]
   | _ => rfl
 | nilCheck x => simp only [xop, Be hm]
 | bin op x y =>
   have e1 := Be (x := x) (s := s) (s2 := s2) (fun t ht => hm t (by simp [ments, ht]))
   have e2 := Be (x := y) (s := s) (s2 := s2) (fun t ht => hm t (by simp [ments, ht]))
   simp only [xop, e1, e2]
 | eqBool ng x y =>
   have e1 := Be (x := x) (s := s) (s2 := s2) (fun t ht => hm t (by simp [ments, ht]))
   have e2 := Be (x := y) (s := s) (s2 := s2) (fun t ht => hm t (by simp [ments, ht]))
   simp only [xop, e1, e2]
 | eqNil => simp [Dp] at hp
 | mkMap => simp [Dp] at hp
 | mapSet => simp [Dp] at hp
 | bad => rfl
 | toBytes x => simp only [xop, Be hm]
 | not x => simp only [xop, Be hm]
 | neg x => simp only [xop, Be hm]
 | toInt k x => simp only [xop, Be hm]
 | toStr x => simp only [xop, Be hm]
 | fieldAddr off x => simp only [xop, Be hm]
 | field agg off size x => simp only [xop, Be hm]
 | indexAddr size x i =>
   have e1 := Be (x := x) (s := s) (s2 := s2) (fun t ht => hm t (by simp [ments, ht]))
   have e2 := Be (x := i) (s := s) (s2 := s2) (fun t ht => hm t (by simp [ments, ht]))
   simp only [xop, e1, e2, K4 (st := s.st) (st2 := s2.st) (p := ev s x) hr]
 | indexStr x i =>
   have e1 := Be (x := x) (s := s) (s2 := s2) (fun t ht => hm t (by simp [ments, ht]))
   have e2 := Be (x := i) (s := s) (s2 := s2) (fun t ht => hm t (by simp [ments, ht]))
   simp only [xop, e1, e2]
 | sliceS x lo hi =>
   have e1 := Be (x := x) (s := s) (s2 := s2) (fun t ht => hm t (by simp [ments, ht]))
   have e2 := fun d K => W4 (dflt := d) (K := K) (x := lo) (s := s) (s2 := s2) (fun t ht => hm t (by simp [ments, ht]))
   have e3 := fun d K => W4 (dflt := d) (K := K) (x := hi) (s := s) (s2 := s2) (fun t ht => hm t (by simp [ments, ht]))
   simp only [xop, e1, e2, e3]
 | sliceR size x lo hi mx =>
   have e1 := Be (x := x) (s := s) (s2 := s2) (fun t ht => hm t (by simp [ments, ht]))
   have e2 := fun d K => W4 (dflt := d) (K := K) (x := lo) (s := s) (s2 := s2) (fun t ht => hm t (by simp [ments, ht]))
   have e3 := fun d K => W4 (dflt := d) (K := K) (x := hi) (s := s) (s2 := s2) (fun t ht => hm t (by simp [ments, ht]))
   have e4 := K4 (st := s.st) (st2 := s2.st) (p := ev s x) hr
   cases mx with
   | none => simp only [xop, e1, e4]; cases A4 s.st (ev s x) <;> simp only [e2, e3]
   | some m =>
     have e5 := fun d K => W4 (dflt := d) (K := K) (x := some m) (s := s) (s2 := s2) (fun t ht => hm t (by simp [ments, ht]))
     simp only [xop, e1, e4]
     cases A4 s.st (ev s x) <;> simp only [e2, e3, e5]
 | lenS x => simp only [xop, Be hm]
 | lenR x =>
   have e1 := Be (x := x) (s := s) (s2 := s2) hm
   simp only [xop, e1, K4 (st := s.st) (st2 := s2.st) (p := ev s x) hr]
 | minmax mx x xs =>
   have e1 := Be (x := x) (s := s) (s2 := s2) (fun t ht => hm t (by simp [ments, ht]))
   have e2 := fun n K k => Bs2 (mx := mx) (K := K) (k := k) (xs := xs) (s := s) (s2 := s2) n (fun t ht => hm t (by simp [ments, ht]))
   simp only [xop, e1, e2]
 | extract x i => simp only [xop, Be hm]
 | mkfn f a b =>
   have e1 := AP3 (xs := a) (s := s) (s2 := s2) (fun t ht => hm t (by simp [ments, ht]))
   have e2 := AP3 (xs := b) (s := s) (s2 := s2) (fun t ht => hm t (by simp [ments, ht]))
   simp only [xop, e1, e2]
theorem BU0 {op : BinOp} {K : D → Prop} {a b : D} (h : EO op K a b) : ∃ r, K r ∧ ∀ K' : D → Prop, K' r → EO op K' a b := by
 cases a with
 | int k n =>
   cases b with
   | int k' m => cases op <;> simp only [EO] at h ⊢ <;> first | exact ⟨_, h.2, fun K' hk => ⟨h.1, hk⟩⟩ | exact ⟨_, h.2.2, fun K' hk => ⟨h.1, h.2.1, hk⟩⟩
   | _ => simp [EO] at h
 | str u =>
   cases b with
   | str u' => cases op <;> simp only [EO] at h ⊢ <;> first | exact h.elim | exact ⟨_, h.2, fun K' hk => ⟨h.1, hk⟩⟩ | exact ⟨_, h, fun K' hk => hk⟩
   | _ => simp [EO] at h
 | bool _ => cases b <;> simp [EO] at h
 | sl _ => cases b <;> simp [EO] at h
theorem Yk {dflt : Int} {K : Int → Prop} {x : Option XA} (h : bnd s dflt K x) : ∃ i, K i ∧ ∀ K' : Int → Prop, K' i → bnd s dflt K' x := by
 cases x with
 | none => exact ⟨dflt, h, fun _ hk => hk⟩
 | some a =>
   simp only [bnd] at h ⊢
   split at h
   · exact ⟨_, h, fun _ hk => hk⟩
   · exact h.elim
theorem BO2 {mx : Bool} {K : Int → Prop} {k : IntKind} : ∀ {xs : List XA} {n : Int}, mmD mx s n xs K k → ∃ i, K i ∧ ∀ K' : Int → Prop, K' i → mmD mx s n xs K' k
 | [], n, h => ⟨n, h, fun _ hk => hk⟩
 | x :: r, n, h => by
   simp only [mmD] at h ⊢
   split at h
   · obtain ⟨h1, h2⟩ := h
     obtain ⟨i, a, b⟩ := BO2 h2
     exact ⟨i, a, fun K' hk => ⟨h1, b K' hk⟩⟩
   · exact h.elim
theorem Cc6 {o : XOp} (hp : Dp o = true) {Kv : PV → Prop} (hk : xop P o (fun v _ => Kv v) s) : ∃ v, Kv v ∧ ∀ K' : PV → Prop, K' v → xop P o (fun v _ => K' v) s := by
 cases o with
 | box | alloc | store | append | call | dyn => simp [Dp] at hp
 | pick c a b =>
   simp only [xop] at hk ⊢
   generalize ev s c = pc at hk ⊢
   generalize ev s a = pa at hk ⊢
   generalize ev s b = pb at hk ⊢
   split at hk
   · exact ⟨_, hk, fun _ h => h⟩
   · rename_i t hne
     refine ⟨if t then pa else pb, ?_, fun K' h => ?_⟩
     · cases t
       · exact hk.2 rfl
       · exact hk.1 rfl
     · cases t
       · exact ⟨(fun e => by cases e), fun _ => h⟩
       · exact ⟨fun _ => h, (fun e => by cases e)⟩
   · exact hk.elim
 | bin op x y =>
   simp only [xop] at hk ⊢
   split at hk
   · obtain ⟨r, h1, h2⟩ := BU0 hk
     exact ⟨.d r, h1, fun K' h => h2 _ h⟩
   · exact hk.elim
 | build zero parts => simp only [xop] at hk ⊢; exact ⟨_, hk.2, fun _ h => ⟨hk.1, h⟩⟩
 | load agg size x =>
   simp only [xop] at hk ⊢
   split at hk
   · split at hk
     · cases agg with
       | true => simp only [if_true] at hk ⊢; exact ⟨_, hk.2, fun _ h => ⟨hk.1, h⟩⟩
       | false =>
         simp only [Bool.false_eq_true, if_false] at hk ⊢
         split at hk
         · exact ⟨_, hk, fun _ h => h⟩
         · exact hk.elim
     · exact hk.elim
   · cases agg with
     | true => simp only [if_true] at hk ⊢; exact ⟨_, hk.2, fun _ h => ⟨hk.1, h⟩⟩
     | false =>
       simp only [Bool.false_eq_true, if_false] at hk ⊢
       split at hk
       · exact ⟨_, hk, fun _ h => h⟩
       · exact hk.elim
   · exact hk.elim
 | field agg off size x =>
   simp only [xop] at hk ⊢
   split at hk
   · cases agg with
     | true => simp only [if_true] at hk ⊢; exact ⟨_, hk.2, fun _ h => ⟨hk.1, h⟩⟩
     | false =>
       simp only [Bool.false_eq_true, if_false] at hk ⊢
       split at hk
       · exact ⟨_, hk, fun _ h => h⟩
       · exact hk.elim
   · exact hk.elim
 | indexAddr size x i =>
   simp only [xop] at hk ⊢
   split at hk
   · rename_i rows k n _ _
     obtain ⟨h1, h2, h3⟩ := hk
     have hlt : n.toNat < rows.length := by omega
     obtain ⟨q1, q2⟩ := h3 _ (List.getElem?_eq_getElem hlt)
     refine ⟨_, q2, fun _ h => ⟨h1, h2, fun row hr => ?_⟩⟩
     rw [List.getElem?_eq_getElem hlt] at hr
     cases hr
     exact ⟨q1, h⟩
   · exact hk.elim
 | indexStr x i =>
   simp only [xop] at hk ⊢
   split at hk
   · exact ⟨_, hk.2.2, fun _ h => ⟨hk.1, hk.2.1, h⟩⟩
   · exact hk.elim
 | sliceS x lo hi =>
   simp only [xop] at hk ⊢
   split at hk
   · obtain ⟨l, h1, h2⟩ := Yk hk
     obtain ⟨h', h3, h4⟩ := Yk h1
     exact ⟨_, h3.2.2.2, fun _ h => h2 _ (h4 _ ⟨h3.1, h3.2.1, h3.2.2.1, h⟩)⟩
   · exact hk.elim
 | sliceR size x lo hi mx =>
   cases mx with
   | none =>
     simp only [xop] at hk ⊢
     split at hk
     · obtain ⟨hz, hk⟩ := hk
       obtain ⟨l, h1, h2⟩ := Yk hk
       obtain ⟨h', h3, h4⟩ := Yk h1
       exact ⟨_, h3.2.2.2, fun _ h => ⟨hz, h2 _ (h4 _ ⟨h3.1, h3.2.1, h3.2.2.1, h⟩)⟩⟩
     · rename_i e; cases e
     · exact hk.elim
   | some m =>
     simp only [xop] at hk ⊢
     split at hk
     · rename_i e; cases e
     · rename_i m' _ e
       cases e
       obtain ⟨hz, hk⟩ := hk
       obtain ⟨l, h1, h2⟩ := Yk hk
       obtain ⟨h', h3, h4⟩ := Yk h1
       obtain ⟨mi, h5, h6⟩ := Yk h3
       exact ⟨_, h5.2.2.2.2, fun _ h => ⟨hz, h2 _ (h4 _ (h6 _ ⟨h5.1, h5.2.1, h5.2.2.1, h5.2.2.2.1, h⟩))⟩⟩
     · exact hk.elim
 | minmax mx x xs =>
   simp only [xop] at hk ⊢
   split at hk
   · obtain ⟨i, h1, h2⟩ := BO2 hk
     exact ⟨_, h1, fun K' h => h2 _ h⟩
   · exact hk.elim
 | eqNil | mkMap | mapSet => simp [Dp] at hp
 | bad => exact hk.elim
 | extract x i =>
   simp only [xop] at hk ⊢
   split at hk
   · split at hk
     · exact ⟨_, hk, fun _ h => h⟩
     · exact hk.elim
   · exact hk.elim
 | move x => simp only [xop] at hk ⊢; exact ⟨_, hk, fun _ h => h⟩
 | mkfn f a b => simp only [xop] at hk ⊢; exact ⟨_, hk, fun _ h => h⟩
 | _ =>
   simp only [xop] at hk ⊢
   split at hk <;> first | exact hk.elim | exact ⟨_, hk, fun _ h => h⟩
end
end Go.Ax
