import Derived.Test.YtojkpenjeglipaaIAxVj
set_option linter.unusedVariables false
set_option linter.unusedSimpArgs false
namespace Go.Ax
open Go.RowKit
section
variable {P : Program} {s s2 : XS}
theorem Bm {x : XA} (h : ∀ t, t ∈ Fw x → s2.r t = s.r t) : ev s2 x = ev s x := by
 cases x with
 | t i => exact h i (by simp [Fw])
 | c p => rfl
theorem VC : ∀ {xs : List XA}, (∀ t, t ∈ DE xs → s2.r t = s.r t) → xs.map (ev s2) = xs.map (ev s)
 | [], _ => rfl
 | x :: r, h => by
   rw [List.map_cons, List.map_cons, Bm (fun t ht => h t (by simp [DE, ht])), VC (fun t ht => h t (by simp [DE, ht]))]
theorem V1 : ∀ {ps : List (Nat × Nat × XA)} (acc : List PV) (n : Nat), (∀ t, t ∈ QO ps → s2.r t = s.r t) → Ft s2 acc ps = Ft s acc ps ∧ (Do s2 n ps ↔ Do s n ps)
 | [], acc, n, _ => ⟨rfl, Iff.rfl⟩
 | (off, size, x) :: r, acc, n, h => by
   have e := Bm (x := x) (s := s) (s2 := s2) (fun t ht => h t (by simp [QO, ht]))
   have ih := fun acc => V1 (ps := r) acc n (fun t ht => h t (by simp [QO, ht]))
   simp only [Ft, Do, e]
   exact ⟨(ih _).1, by rw [(ih acc).2]⟩
theorem Rv {st st2 : List Content} {p : PV} (h : ∀ b, b ∈ JC p → st2[b]? = st[b]?) : frz st2 p = frz st p := by
 cases p with
 | own t ver => simp only [frz]; rw [h t (by simp [JC])]
 | _ => rfl
theorem Jv {st st2 : List Content} {p : PV} (h : ∀ b, b ∈ JC p → st2[b]? = st[b]?) : A6 st2 p = A6 st p := by
 cases p with
 | own t ver => simp only [A6]; rw [h t (by simp [JC])]
 | d x => cases x <;> rfl
 | _ => rfl
theorem Sr {st st2 : List Content} : ∀ {ps : List PV}, (∀ b, b ∈ Zm ps → st2[b]? = st[b]?) → ps.map (frz st2) = ps.map (frz st)
 | [], _ => rfl
 | p :: r, h => by rw [List.map_cons, List.map_cons, Rv (fun t ht => h t (by simp [Zm, ht])), Sr (fun t ht => h t (by simp [Zm, ht]))]
theorem X7 {st st2 : List Content} : ∀ {ps : List PV}, (∀ b, b ∈ Zm ps → st2[b]? = st[b]?) → GU st2 ps = GU st ps
 | [], _ => rfl
 | p :: r, h => by
   simp only [GU, toD]
   rw [Rv (fun t ht => h t (by simp [Zm, ht])), X7 (fun t ht => h t (by simp [Zm, ht]))]
theorem ST {size : Nat} : ∀ {xs : List XA}, (∀ t, t ∈ DE xs → s2.r t = s.r t) → (∀ b, b ∈ I1 s xs → s2.st[b]? = s.st[b]?) → CO s2 size xs = CO s size xs
 | [], _, _ => rfl
 | x :: r, h, k => by
   simp only [CO]
   rw [Bm (fun t ht => h t (by simp [DE, ht])), X7 (fun t ht => k t (by simp [I1, ht])), ST (fun t ht => h t (by simp [DE, ht])) (fun t ht => k t (by simp [I1, ht]))]
theorem Av7 {st st2 : List Content} {p : PV} (h : ∀ b, b ∈ Ai8 [p] → st2[b]? = st[b]?) : Ht st2 p = Ht st p := by
 cases p with
 | agg ds => simp only [Ht, Sr (ps := ds) (st := st) (st2 := st2) (fun t ht => h t (by simp [Ai8, ht]))]
 | own t ver => exact Rv (p := .own t ver) (fun b hb => h b (by simpa [Ai8] using hb))
 | _ => rfl
theorem Zq {st st2 : List Content} : ∀ {ps : List PV}, (∀ b, b ∈ Ai8 ps → st2[b]? = st[b]?) → ps.map (Ht st2) = ps.map (Ht st)
 | [], _ => rfl
 | p :: r, h => by
   have ih := Zq (ps := r) (st := st) (st2 := st2) (fun t ht => h t (by cases p <;> simp [Ai8, ht]))
   have e := Av7 (p := p) (st := st) (st2 := st2) (fun t ht => h t (by cases p <;> simp [Ai8] at ht ⊢ <;> simp [ht]))
   rw [List.map_cons, List.map_cons, ih, e]
theorem Av2 {st st2 : List Content} {p : PV} (h : ∀ b, b ∈ AO9 p → st2[b]? = st[b]?) : Dt st2 p = Dt st p := by
 cases p with
 | agg ps => simp only [Dt, Sr h]
 | tup ps => simp only [Dt, Zq h]
 | own t ver => exact Rv (p := .own t ver) h
 | _ => rfl
theorem Sd : ∀ {xs : List XA}, (∀ t, t ∈ DE xs → s2.r t = s.r t) → (∀ b, b ∈ Cv s xs → s2.st[b]? = s.st[b]?) → xs.map (fun a => Dt s2.st (ev s2 a)) = xs.map (fun a => Dt s.st (ev s a))
 | [], _, _ => rfl
 | x :: r, h, k => by
   rw [List.map_cons, List.map_cons, Bm (fun t ht => h t (by simp [DE, ht])), Av2 (fun t ht => k t (by simp [Cv, ht])), Sd (fun t ht => h t (by simp [DE, ht])) (fun t ht => k t (by simp [Cv, ht]))]
theorem Oo {dflt : Int} {K : Int → Prop} {x : Option XA} (h : ∀ t, t ∈ Of x → s2.r t = s.r t) : bnd s2 dflt K x = bnd s dflt K x := by
 cases x with
 | none => rfl
 | some a => simp only [bnd]; rw [Bm h]
theorem Af3 {mx : Bool} {K : Int → Prop} {k : IntKind} : ∀ {xs : List XA} (n : Int), (∀ t, t ∈ DE xs → s2.r t = s.r t) → mmD mx s2 n xs K k = mmD mx s n xs K k
 | [], _, _ => rfl
 | x :: r, n, h => by
   have e := Bm (x := x) (s := s) (s2 := s2) (fun t ht => h t (by simp [DE, ht]))
   have ih := fun n => Af3 (mx := mx) (K := K) (k := k) (xs := r) n (fun t ht => h t (by simp [DE, ht]))
   simp only [mmD, e, ih]
def Dk : XOp → Bool
 | .box _ | .alloc _ | .store .. | .append .. | .call .. | .dyn .. | .mkMap .. | .mapSet .. | .eqNil .. => false
 | _ => true
theorem AK6 {o : XOp} (hp : Dk o = true) (hm : ∀ t, t ∈ ments o → s2.r t = s.r t) (hr : ∀ b, b ∈ Fx o s → s2.st[b]? = s.st[b]?) (K : PV → List Content → Prop) : xop P o K s2 = xop P o (fun v _ => K v s2.st) s := by
 cases o with
 | box | alloc | store | append | call | dyn => simp [Dk] at hp
 | move x => simp only [xop, Bm hm]
 | pick c a b =>
   have e1 := Bm (x := c) (s := s) (s2 := s2) (fun t ht => hm t (by simp [ments, ht]))
   have e2 := Bm (x := a) (s := s) (s2 := s2) (fun t ht => hm t (by simp [ments, ht]))
   have e3 := Bm (x := b) (s := s) (s2 := s2) (fun t ht => hm t (by simp [ments, ht]))
   simp only [xop, e1, e2, e3]
 | build zero parts =>
   have e := fun acc n => V1 (s := s) (s2 := s2) (ps := parts) acc n hm
   simp only [xop, (e zero zero.length).1, propext (e zero zero.length).2]
 | buildSlice size parts =>
   have e := ST (s := s) (s2 := s2) (size := size) (xs := parts) hm hr
   simp only [xop, e]
 | load agg size x =>
   have e := Bm (x := x) (s := s) (s2 := s2) hm
   simp only [xop, e]
   simp only [Fx] at hr
   cases hev : ev s x with
   | ptr b off =>
     rw [hev] at hr
     simp only [hr b (by simp)]
   | _ => rfl
 | nilCheck x => simp only [xop, Bm hm]
 | bin op x y =>
   have e1 := Bm (x := x) (s := s) (s2 := s2) (fun t ht => hm t (by simp [ments, ht]))
   have e2 := Bm (x := y) (s := s) (s2 := s2) (fun t ht => hm t (by simp [ments, ht]))
   simp only [xop, e1, e2]
 | eqBool ng x y =>
   have e1 := Bm (x := x) (s := s) (s2 := s2) (fun t ht => hm t (by simp [ments, ht]))
   have e2 := Bm (x := y) (s := s) (s2 := s2) (fun t ht => hm t (by simp [ments, ht]))
   simp only [xop, e1, e2]
 | eqNil => simp [Dk] at hp
 | mkMap => simp [Dk] at hp
 | mapSet => simp [Dk] at hp
 | toBytes x => simp only [xop, Bm hm]
 | not x => simp only [xop, Bm hm]
 | neg x => simp only [xop, Bm hm]
 | toInt k x => simp only [xop, Bm hm]
 | toStr x => simp only [xop, Bm hm]
 | fieldAddr off x => simp only [xop, Bm hm]
 | field agg off size x => simp only [xop, Bm hm]
 | indexAddr size x i =>
   have e1 := Bm (x := x) (s := s) (s2 := s2) (fun t ht => hm t (by simp [ments, ht]))
   have e2 := Bm (x := i) (s := s) (s2 := s2) (fun t ht => hm t (by simp [ments, ht]))
   simp only [xop, e1, e2, Jv (st := s.st) (st2 := s2.st) (p := ev s x) hr]
 | indexStr x i =>
   have e1 := Bm (x := x) (s := s) (s2 := s2) (fun t ht => hm t (by simp [ments, ht]))
   have e2 := Bm (x := i) (s := s) (s2 := s2) (fun t ht => hm t (by simp [ments, ht]))
   simp only [xop, e1, e2]
 | sliceS x lo hi =>
   have e1 := Bm (x := x) (s := s) (s2 := s2) (fun t ht => hm t (by simp [ments, ht]))
   have e2 := fun d K => Oo (dflt := d) (K := K) (x := lo) (s := s) (s2 := s2) (fun t ht => hm t (by simp [ments, ht]))
   have e3 := fun d K => Oo (dflt := d) (K := K) (x := hi) (s := s) (s2 := s2) (fun t ht => hm t (by simp [ments, ht]))
   simp only [xop, e1, e2, e3]
 | sliceR size x lo hi mx =>
   have e1 := Bm (x := x) (s := s) (s2 := s2) (fun t ht => hm t (by simp [ments, ht]))
   have e2 := fun d K => Oo (dflt := d) (K := K) (x := lo) (s := s) (s2 := s2) (fun t ht => hm t (by simp [ments, ht]))
   have e3 := fun d K => Oo (dflt := d) (K := K) (x := hi) (s := s) (s2 := s2) (fun t ht => hm t (by simp [ments, ht]))
   have e4 := Jv (st := s.st) (st2 := s2.st) (p := ev s x) hr
   cases mx with
   | none => simp only [xop, e1, e4]; cases A6 s.st (ev s x) <;> simp only [e2, e3]
   | some m =>
     have e5 := fun d K => Oo (dflt := d) (K := K) (x := some m) (s := s) (s2 := s2) (fun t ht => hm t (by simp [ments, ht]))
     simp only [xop, e1, e4]
     cases A6 s.st (ev s x) <;> simp only [e2, e3, e5]
 | lenS x => simp only [xop, Bm hm]
 | lenR x =>
   have e1 := Bm (x := x) (s := s) (s2 := s2) hm
   simp only [xop, e1, Jv (st := s.st) (st2 := s2.st) (p := ev s x) hr]
 | minmax mx x xs =>
   have e1 := Bm (x := x) (s := s) (s2 := s2) (fun t ht => hm t (by simp [ments, ht]))
   have e2 := fun n K k => Af3 (mx := mx) (K := K) (k := k) (xs := xs) (s := s) (s2 := s2) n (fun t ht => hm t (by simp [ments, ht]))
   simp only [xop, e1, e2]
 | extract x i => simp only [xop, Bm hm]
 | mkfn f a b =>
   have e1 := VC (xs := a) (s := s) (s2 := s2) (fun t ht => hm t (by simp [ments, ht]))
   have e2 := VC (xs := b) (s := s) (s2 := s2) (fun t ht => hm t (by simp [ments, ht]))
   simp only [xop, e1, e2]
theorem AE1 {op : BinOp} {K : D → Prop} {a b : D} (h : EB op K a b) : ∃ r, K r ∧ ∀ K' : D → Prop, K' r → EB op K' a b := by
 cases a with
 | int k n =>
   cases b with
   | int k' m => cases op <;> simp only [EB] at h ⊢ <;> first | exact ⟨_, h.2, fun K' hk => ⟨h.1, hk⟩⟩ | exact ⟨_, h.2.2, fun K' hk => ⟨h.1, h.2.1, hk⟩⟩
   | _ => simp [EB] at h
 | str u =>
   cases b with
   | str u' => cases op <;> simp only [EB] at h ⊢ <;> first | exact h.elim | exact ⟨_, h.2, fun K' hk => ⟨h.1, hk⟩⟩ | exact ⟨_, h, fun K' hk => hk⟩
   | _ => simp [EB] at h
 | bool _ => cases b <;> simp [EB] at h
 | sl _ => cases b <;> simp [EB] at h
theorem OK {dflt : Int} {K : Int → Prop} {x : Option XA} (h : bnd s dflt K x) : ∃ i, K i ∧ ∀ K' : Int → Prop, K' i → bnd s dflt K' x := by
 cases x with
 | none => exact ⟨dflt, h, fun _ hk => hk⟩
 | some a =>
   simp only [bnd] at h ⊢
   split at h
   · exact ⟨_, h, fun _ hk => hk⟩
   · exact h.elim
theorem Ax3 {mx : Bool} {K : Int → Prop} {k : IntKind} : ∀ {xs : List XA} {n : Int}, mmD mx s n xs K k → ∃ i, K i ∧ ∀ K' : Int → Prop, K' i → mmD mx s n xs K' k
 | [], n, h => ⟨n, h, fun _ hk => hk⟩
 | x :: r, n, h => by
   simp only [mmD] at h ⊢
   split at h
   · obtain ⟨h1, h2⟩ := h
     obtain ⟨i, a, b⟩ := Ax3 h2
     exact ⟨i, a, fun K' hk => ⟨h1, b K' hk⟩⟩
   · exact h.elim
theorem AN0 {o : XOp} (hp : Dk o = true) {Kv : PV → Prop} (hk : xop P o (fun v _ => Kv v) s) : ∃ v, Kv v ∧ ∀ K' : PV → Prop, K' v → xop P o (fun v _ => K' v) s := by
 cases o with
 | box | alloc | store | append | call | dyn => simp [Dk] at hp
 | pick c a b =>
   simp only [xop] at hk ⊢
   generalize ev s c = pc at hk ⊢
   generalize ev s a = pa at hk ⊢
   generalize ev s b = pb at hk ⊢
   split at hk
   · exact ⟨_, hk, fun _ h => h⟩
   · rename_i t hne
     refine ⟨if t then pa else pb, ?_, fun K' h => ?_⟩
     · cases t
       · exact hk.2 rfl
       · exact hk.1 rfl
     · cases t
       · exact ⟨(fun e => by cases e), fun _ => h⟩
       · exact ⟨fun _ => h, (fun e => by cases e)⟩
   · exact hk.elim
 | bin op x y =>
   simp only [xop] at hk ⊢
   split at hk
   · obtain ⟨r, h1, h2⟩ := AE1 hk
     exact ⟨.d r, h1, fun K' h => h2 _ h⟩
   · exact hk.elim
 | build zero parts => simp only [xop] at hk ⊢; exact ⟨_, hk.2, fun _ h => ⟨hk.1, h⟩⟩
 | load agg size x =>
   simp only [xop] at hk ⊢
   split at hk
   · split at hk
     · cases agg with
       | true => simp only [if_true] at hk ⊢; exact ⟨_, hk.2, fun _ h => ⟨hk.1, h⟩⟩
       | false =>
         simp only [Bool.false_eq_true, if_false] at hk ⊢
         split at hk
         · exact ⟨_, hk, fun _ h => h⟩
         · exact hk.elim
     · exact hk.elim
   · cases agg with
     | true => simp only [if_true] at hk ⊢; exact ⟨_, hk.2, fun _ h => ⟨hk.1, h⟩⟩
     | false =>
       simp only [Bool.false_eq_true, if_false] at hk ⊢
       split at hk
       · exact ⟨_, hk, fun _ h => h⟩
       · exact hk.elim
   · exact hk.elim
 | field agg off size x =>
   simp only [xop] at hk ⊢
   split at hk
   · cases agg with
     | true => simp only [if_true] at hk ⊢; exact ⟨_, hk.2, fun _ h => ⟨hk.1, h⟩⟩
     | false =>
       simp only [Bool.false_eq_true, if_false] at hk ⊢
       split at hk
       · exact ⟨_, hk, fun _ h => h⟩
       · exact hk.elim
   · exact hk.elim
 | indexAddr size x i =>
   simp only [xop] at hk ⊢
   split at hk
   · rename_i rows k n _ _
     obtain ⟨h1, h2, h3⟩ := hk
     have hlt : n.toNat < rows.length := by omega
     obtain ⟨q1, q2⟩ := h3 _ (List.getElem?_eq_getElem hlt)
     refine ⟨_, q2, fun _ h => ⟨h1, h2, fun row hr => ?_⟩⟩
     rw [List.getElem?_eq_getElem hlt] at hr
     cases hr
     exact ⟨q1, h⟩
   · exact hk.elim
 | indexStr x i =>
   simp only [xop] at hk ⊢
   split at hk
   · exact ⟨_, hk.2.2, fun _ h => ⟨hk.1, hk.2.1, h⟩⟩
   · exact hk.elim
 | sliceS x lo hi =>
   simp only [xop] at hk ⊢
   split at hk
   · obtain ⟨l, h1, h2⟩ := OK hk
     obtain ⟨h', h3, h4⟩ := OK h1
     exact ⟨_, h3.2.2.2, fun _ h => h2 _ (h4 _ ⟨h3.1, h3.2.1, h3.2.2.1, h⟩)⟩
   · exact hk.elim
 | sliceR size x lo hi mx =>
   cases mx with
   | none =>
     simp only [xop] at hk ⊢
     split at hk
     · obtain ⟨hz, hk⟩ := hk
       obtain ⟨l, h1, h2⟩ := OK hk
       obtain ⟨h', h3, h4⟩ := OK h1
       exact ⟨_, h3.2.2.2, fun _ h => ⟨hz, h2 _ (h4 _ ⟨h3.1, h3.2.1, h3.2.2.1, h⟩)⟩⟩
     · rename_i e; cases e
     · exact hk.elim
   | some m =>
     simp only [xop] at hk ⊢
     split at hk
     · rename_i e; cases e
     · rename_i m' _ e
       cases e
       obtain ⟨hz, hk⟩ := hk
       obtain ⟨l, h1, h2⟩ := OK hk
       obtain ⟨h', h3, h4⟩ := OK h1
       obtain ⟨mi, h5, h6⟩ := OK h3
       exact ⟨_, h5.2.2.2.2, fun _ h => ⟨hz, h2 _ (h4 _ (h6 _ ⟨h5.1, h5.2.1, h5.2.2.1, h5.2.2.2.1, h⟩))⟩⟩
     · exact hk.elim
 | minmax mx x xs =>
   simp only [xop] at hk ⊢
   split at hk
   · obtain ⟨i, h1, h2⟩ := Ax3 hk
     exact ⟨_, h1, fun K' h => h2 _ h⟩
   · exact hk.elim
 | eqNil | mkMap | mapSet => simp [Dk] at hp
 | extract x i =>
   simp only [xop] at hk ⊢
   split at hk
   · split at hk
     · exact ⟨_, hk, fun _ h => h⟩
     · exact hk.elim
   · exact hk.elim
 | move x => simp only [xop] at hk ⊢; exact ⟨_, hk, fun _ h => h⟩
 | mkfn f a b => simp only [xop] at hk ⊢; exact ⟨_, hk, fun _ h => h⟩
 | _ =>
   simp only [xop] at hk ⊢
   split at hk <;> first | exact hk.elim | exact ⟨_, hk, fun _ h => h⟩
end
end Go.Ax
