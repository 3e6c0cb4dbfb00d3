/- Regions that draw their order: each operation does the same in whatever order. -/
import Derived.Test.YtojkpenjeglipaaAxVj
set_option linter.unusedVariables false
set_option linter.unusedSimpArgs false
namespace Go.Ax
open Go.RowKit

section
variable {P : Program} {s s2 : XS}

theorem ev_congr {x : XA} (h : ∀ t, t ∈ xaSlots x → s2.r t = s.r t) : ev s2 x = ev s x := by
  cases x with
  | t i => exact h i (by simp [xaSlots])
  | c p => rfl
theorem evs_congr : ∀ {xs : List XA}, (∀ t, t ∈ xaSlotsL xs → s2.r t = s.r t) → xs.map (ev s2) = xs.map (ev s)
  | [], _ => rfl
  | x :: r, h => by
    rw [List.map_cons, List.map_cons, ev_congr (fun t ht => h t (by simp [xaSlotsL, ht])), evs_congr (fun t ht => h t (by simp [xaSlotsL, ht]))]
theorem fillP_congr : ∀ {ps : List (Nat × Nat × XA)} (acc : List PV) (n : Nat), (∀ t, t ∈ xaSlotsP ps → s2.r t = s.r t) → fillP s2 acc ps = fillP s acc ps ∧ (fillOk s2 n ps ↔ fillOk s n ps)
  | [], acc, n, _ => ⟨rfl, Iff.rfl⟩
  | (off, size, x) :: r, acc, n, h => by
    have e := ev_congr (x := x) (s := s) (s2 := s2) (fun t ht => h t (by simp [xaSlotsP, ht]))
    have ih := fun acc => fillP_congr (ps := r) acc n (fun t ht => h t (by simp [xaSlotsP, ht]))
    simp only [fillP, fillOk, e]
    exact ⟨(ih _).1, by rw [(ih acc).2]⟩
theorem frz_congr {st st2 : List Content} {p : PV} (h : ∀ b, b ∈ tokOf p → st2[b]? = st[b]?) : frz st2 p = frz st p := by
  cases p with
  | own t ver => simp only [frz]; rw [h t (by simp [tokOf])]
  | _ => rfl
theorem asRows_congr {st st2 : List Content} {p : PV} (h : ∀ b, b ∈ tokOf p → st2[b]? = st[b]?) : asRows st2 p = asRows st p := by
  cases p with
  | own t ver => simp only [asRows]; rw [h t (by simp [tokOf])]
  | d x => cases x <;> rfl
  | _ => rfl
theorem frzL_congr {st st2 : List Content} : ∀ {ps : List PV}, (∀ b, b ∈ tokL ps → st2[b]? = st[b]?) → ps.map (frz st2) = ps.map (frz st)
  | [], _ => rfl
  | p :: r, h => by rw [List.map_cons, List.map_cons, frz_congr (fun t ht => h t (by simp [tokL, ht])), frzL_congr (fun t ht => h t (by simp [tokL, ht]))]
theorem toDs_congr {st st2 : List Content} : ∀ {ps : List PV}, (∀ b, b ∈ tokL ps → st2[b]? = st[b]?) → toDs st2 ps = toDs st ps
  | [], _ => rfl
  | p :: r, h => by
    simp only [toDs, toD]
    rw [frz_congr (fun t ht => h t (by simp [tokL, ht])), toDs_congr (fun t ht => h t (by simp [tokL, ht]))]
theorem rowsOf_congr {size : Nat} : ∀ {xs : List XA}, (∀ t, t ∈ xaSlotsL xs → s2.r t = s.r t) → (∀ b, b ∈ tokC s xs → s2.st[b]? = s.st[b]?) → rowsOf s2 size xs = rowsOf s size xs
  | [], _, _ => rfl
  | x :: r, h, k => by
    simp only [rowsOf]
    rw [ev_congr (fun t ht => h t (by simp [xaSlotsL, ht])), toDs_congr (fun t ht => k t (by simp [tokC, ht])), rowsOf_congr (fun t ht => h t (by simp [xaSlotsL, ht])) (fun t ht => k t (by simp [tokC, ht]))]
theorem frz1_congr {st st2 : List Content} {p : PV} (h : ∀ b, b ∈ tokT [p] → st2[b]? = st[b]?) : frz1 st2 p = frz1 st p := by
  cases p with
  | agg ds => simp only [frz1, frzL_congr (ps := ds) (st := st) (st2 := st2) (fun t ht => h t (by simp [tokT, ht]))]
  | own t ver => exact frz_congr (p := .own t ver) (fun b hb => h b (by simpa [tokT] using hb))
  | _ => rfl
theorem frzT_congr {st st2 : List Content} : ∀ {ps : List PV}, (∀ b, b ∈ tokT ps → st2[b]? = st[b]?) → ps.map (frz1 st2) = ps.map (frz1 st)
  | [], _ => rfl
  | p :: r, h => by
    have ih := frzT_congr (ps := r) (st := st) (st2 := st2) (fun t ht => h t (by cases p <;> simp [tokT, ht]))
    have e := frz1_congr (p := p) (st := st) (st2 := st2) (fun t ht => h t (by cases p <;> simp [tokT] at ht ⊢ <;> simp [ht]))
    rw [List.map_cons, List.map_cons, ih, e]
theorem frzA_congr {st st2 : List Content} {p : PV} (h : ∀ b, b ∈ tokA p → st2[b]? = st[b]?) : frzA st2 p = frzA st p := by
  cases p with
  | agg ps => simp only [frzA, frzL_congr h]
  | tup ps => simp only [frzA, frzT_congr h]
  | own t ver => exact frz_congr (p := .own t ver) h
  | _ => rfl
theorem args_congr : ∀ {xs : List XA}, (∀ t, t ∈ xaSlotsL xs → s2.r t = s.r t) → (∀ b, b ∈ tokArgs s xs → s2.st[b]? = s.st[b]?) → xs.map (fun a => frzA s2.st (ev s2 a)) = xs.map (fun a => frzA s.st (ev s a))
  | [], _, _ => rfl
  | x :: r, h, k => by
    rw [List.map_cons, List.map_cons, ev_congr (fun t ht => h t (by simp [xaSlotsL, ht])), frzA_congr (fun t ht => k t (by simp [tokArgs, ht])), args_congr (fun t ht => h t (by simp [xaSlotsL, ht])) (fun t ht => k t (by simp [tokArgs, ht]))]
theorem bnd_congr {dflt : Int} {K : Int → Prop} {x : Option XA} (h : ∀ t, t ∈ xaSlotsO x → s2.r t = s.r t) : bnd s2 dflt K x = bnd s dflt K x := by
  cases x with
  | none => rfl
  | some a => simp only [bnd]; rw [ev_congr h]
theorem mmD_congr {mx : Bool} {K : Int → Prop} {k : IntKind} : ∀ {xs : List XA} (n : Int), (∀ t, t ∈ xaSlotsL xs → s2.r t = s.r t) → mmD mx s2 n xs K k = mmD mx s n xs K k
  | [], _, _ => rfl
  | x :: r, n, h => by
    have e := ev_congr (x := x) (s := s) (s2 := s2) (fun t ht => h t (by simp [xaSlotsL, ht]))
    have ih := fun n => mmD_congr (mx := mx) (K := K) (k := k) (xs := r) n (fun t ht => h t (by simp [xaSlotsL, ht]))
    simp only [mmD, e, ih]

/-- An operation that writes nothing and calls nothing. -/
def plainOp : XOp → Bool
  | .box _ | .alloc _ | .store .. | .append .. | .call .. | .dyn .. | .mkMap .. | .mapSet .. | .eqNil .. => false
  | _ => true

theorem loc1 {o : XOp} (hp : plainOp o = true) (hm : ∀ t, t ∈ ments o → s2.r t = s.r t) (hr : ∀ b, b ∈ readsOf o s → s2.st[b]? = s.st[b]?) (K : PV → List Content → Prop) : xop P o K s2 = xop P o (fun v _ => K v s2.st) s := by
  cases o with
  | box | alloc | store | append | call | dyn => simp [plainOp] at hp
  | move x => simp only [xop, ev_congr hm]
  | pick c a b =>
    have e1 := ev_congr (x := c) (s := s) (s2 := s2) (fun t ht => hm t (by simp [ments, ht]))
    have e2 := ev_congr (x := a) (s := s) (s2 := s2) (fun t ht => hm t (by simp [ments, ht]))
    have e3 := ev_congr (x := b) (s := s) (s2 := s2) (fun t ht => hm t (by simp [ments, ht]))
    simp only [xop, e1, e2, e3]
  | build zero parts =>
    have e := fun acc n => fillP_congr (s := s) (s2 := s2) (ps := parts) acc n hm
    simp only [xop, (e zero zero.length).1, propext (e zero zero.length).2]
  | buildSlice size parts =>
    have e := rowsOf_congr (s := s) (s2 := s2) (size := size) (xs := parts) hm hr
    simp only [xop, e]
  | load agg size x =>
    have e := ev_congr (x := x) (s := s) (s2 := s2) hm
    simp only [xop, e]
    simp only [readsOf] at hr
    cases hev : ev s x with
    | ptr b off =>
      rw [hev] at hr
      simp only [hr b (by simp)]
    | _ => rfl
  | nilCheck x => simp only [xop, ev_congr hm]
  | bin op x y =>
    have e1 := ev_congr (x := x) (s := s) (s2 := s2) (fun t ht => hm t (by simp [ments, ht]))
    have e2 := ev_congr (x := y) (s := s) (s2 := s2) (fun t ht => hm t (by simp [ments, ht]))
    simp only [xop, e1, e2]
  | eqBool ng x y =>
    have e1 := ev_congr (x := x) (s := s) (s2 := s2) (fun t ht => hm t (by simp [ments, ht]))
    have e2 := ev_congr (x := y) (s := s) (s2 := s2) (fun t ht => hm t (by simp [ments, ht]))
    simp only [xop, e1, e2]
  | eqNil => simp [plainOp] at hp
  | mkMap => simp [plainOp] at hp
  | mapSet => simp [plainOp] at hp
  | toBytes x => simp only [xop, ev_congr hm]
  | not x => simp only [xop, ev_congr hm]
  | neg x => simp only [xop, ev_congr hm]
  | toInt k x => simp only [xop, ev_congr hm]
  | toStr x => simp only [xop, ev_congr hm]
  | fieldAddr off x => simp only [xop, ev_congr hm]
  | field agg off size x => simp only [xop, ev_congr hm]
  | indexAddr size x i =>
    have e1 := ev_congr (x := x) (s := s) (s2 := s2) (fun t ht => hm t (by simp [ments, ht]))
    have e2 := ev_congr (x := i) (s := s) (s2 := s2) (fun t ht => hm t (by simp [ments, ht]))
    simp only [xop, e1, e2, asRows_congr (st := s.st) (st2 := s2.st) (p := ev s x) hr]
  | indexStr x i =>
    have e1 := ev_congr (x := x) (s := s) (s2 := s2) (fun t ht => hm t (by simp [ments, ht]))
    have e2 := ev_congr (x := i) (s := s) (s2 := s2) (fun t ht => hm t (by simp [ments, ht]))
    simp only [xop, e1, e2]
  | sliceS x lo hi =>
    have e1 := ev_congr (x := x) (s := s) (s2 := s2) (fun t ht => hm t (by simp [ments, ht]))
    have e2 := fun d K => bnd_congr (dflt := d) (K := K) (x := lo) (s := s) (s2 := s2) (fun t ht => hm t (by simp [ments, ht]))
    have e3 := fun d K => bnd_congr (dflt := d) (K := K) (x := hi) (s := s) (s2 := s2) (fun t ht => hm t (by simp [ments, ht]))
    simp only [xop, e1, e2, e3]
  | sliceR size x lo hi mx =>
    have e1 := ev_congr (x := x) (s := s) (s2 := s2) (fun t ht => hm t (by simp [ments, ht]))
    have e2 := fun d K => bnd_congr (dflt := d) (K := K) (x := lo) (s := s) (s2 := s2) (fun t ht => hm t (by simp [ments, ht]))
    have e3 := fun d K => bnd_congr (dflt := d) (K := K) (x := hi) (s := s) (s2 := s2) (fun t ht => hm t (by simp [ments, ht]))
    have e4 := asRows_congr (st := s.st) (st2 := s2.st) (p := ev s x) hr
    cases mx with
    | none => simp only [xop, e1, e4]; cases asRows s.st (ev s x) <;> simp only [e2, e3]
    | some m =>
      have e5 := fun d K => bnd_congr (dflt := d) (K := K) (x := some m) (s := s) (s2 := s2) (fun t ht => hm t (by simp [ments, ht]))
      simp only [xop, e1, e4]
      cases asRows s.st (ev s x) <;> simp only [e2, e3, e5]
  | lenS x => simp only [xop, ev_congr hm]
  | lenR x =>
    have e1 := ev_congr (x := x) (s := s) (s2 := s2) hm
    simp only [xop, e1, asRows_congr (st := s.st) (st2 := s2.st) (p := ev s x) hr]
  | minmax mx x xs =>
    have e1 := ev_congr (x := x) (s := s) (s2 := s2) (fun t ht => hm t (by simp [ments, ht]))
    have e2 := fun n K k => mmD_congr (mx := mx) (K := K) (k := k) (xs := xs) (s := s) (s2 := s2) n (fun t ht => hm t (by simp [ments, ht]))
    simp only [xop, e1, e2]
  | extract x i => simp only [xop, ev_congr hm]
  | mkfn f a b =>
    have e1 := evs_congr (xs := a) (s := s) (s2 := s2) (fun t ht => hm t (by simp [ments, ht]))
    have e2 := evs_congr (xs := b) (s := s) (s2 := s2) (fun t ht => hm t (by simp [ments, ht]))
    simp only [xop, e1, e2]

theorem binK_det {op : BinOp} {K : D → Prop} {a b : D} (h : binK op K a b) : ∃ r, K r ∧ ∀ K' : D → Prop, K' r → binK op K' a b := by
  cases a with
  | int k n =>
    cases b with
    | int k' m => cases op <;> simp only [binK] at h ⊢ <;> first | exact ⟨_, h.2, fun K' hk => ⟨h.1, hk⟩⟩ | exact ⟨_, h.2.2, fun K' hk => ⟨h.1, h.2.1, hk⟩⟩
    | _ => simp [binK] at h
  | str u =>
    cases b with
    | str u' => cases op <;> simp only [binK] at h ⊢ <;> first | exact h.elim | exact ⟨_, h.2, fun K' hk => ⟨h.1, hk⟩⟩ | exact ⟨_, h, fun K' hk => hk⟩
    | _ => simp [binK] at h
  | bool _ => cases b <;> simp [binK] at h
  | sl _ => cases b <;> simp [binK] at h
theorem bnd_det {dflt : Int} {K : Int → Prop} {x : Option XA} (h : bnd s dflt K x) : ∃ i, K i ∧ ∀ K' : Int → Prop, K' i → bnd s dflt K' x := by
  cases x with
  | none => exact ⟨dflt, h, fun _ hk => hk⟩
  | some a =>
    simp only [bnd] at h ⊢
    split at h
    · exact ⟨_, h, fun _ hk => hk⟩
    · exact h.elim
theorem mmD_det {mx : Bool} {K : Int → Prop} {k : IntKind} : ∀ {xs : List XA} {n : Int}, mmD mx s n xs K k → ∃ i, K i ∧ ∀ K' : Int → Prop, K' i → mmD mx s n xs K' k
  | [], n, h => ⟨n, h, fun _ hk => hk⟩
  | x :: r, n, h => by
    simp only [mmD] at h ⊢
    split at h
    · obtain ⟨h1, h2⟩ := h
      obtain ⟨i, a, b⟩ := mmD_det h2
      exact ⟨i, a, fun K' hk => ⟨h1, b K' hk⟩⟩
    · exact h.elim

theorem det1 {o : XOp} (hp : plainOp o = true) {Kv : PV → Prop} (hk : xop P o (fun v _ => Kv v) s) : ∃ v, Kv v ∧ ∀ K' : PV → Prop, K' v → xop P o (fun v _ => K' v) s := by
  cases o with
  | box | alloc | store | append | call | dyn => simp [plainOp] at hp
  | pick c a b =>
    simp only [xop] at hk ⊢
    generalize ev s c = pc at hk ⊢
    generalize ev s a = pa at hk ⊢
    generalize ev s b = pb at hk ⊢
    split at hk
    · exact ⟨_, hk, fun _ h => h⟩
    · rename_i t hne
      refine ⟨if t then pa else pb, ?_, fun K' h => ?_⟩
      · cases t
        · exact hk.2 rfl
        · exact hk.1 rfl
      · cases t
        · exact ⟨(fun e => by cases e), fun _ => h⟩
        · exact ⟨fun _ => h, (fun e => by cases e)⟩
    · exact hk.elim
  | bin op x y =>
    simp only [xop] at hk ⊢
    split at hk
    · obtain ⟨r, h1, h2⟩ := binK_det hk
      exact ⟨.d r, h1, fun K' h => h2 _ h⟩
    · exact hk.elim
  | build zero parts => simp only [xop] at hk ⊢; exact ⟨_, hk.2, fun _ h => ⟨hk.1, h⟩⟩
  | load agg size x =>
    simp only [xop] at hk ⊢
    split at hk
    · split at hk
      · cases agg with
        | true => simp only [if_true] at hk ⊢; exact ⟨_, hk.2, fun _ h => ⟨hk.1, h⟩⟩
        | false =>
          simp only [Bool.false_eq_true, if_false] at hk ⊢
          split at hk
          · exact ⟨_, hk, fun _ h => h⟩
          · exact hk.elim
      · exact hk.elim
    · cases agg with
      | true => simp only [if_true] at hk ⊢; exact ⟨_, hk.2, fun _ h => ⟨hk.1, h⟩⟩
      | false =>
        simp only [Bool.false_eq_true, if_false] at hk ⊢
        split at hk
        · exact ⟨_, hk, fun _ h => h⟩
        · exact hk.elim
    · exact hk.elim
  | field agg off size x =>
    simp only [xop] at hk ⊢
    split at hk
    · cases agg with
      | true => simp only [if_true] at hk ⊢; exact ⟨_, hk.2, fun _ h => ⟨hk.1, h⟩⟩
      | false =>
        simp only [Bool.false_eq_true, if_false] at hk ⊢
        split at hk
        · exact ⟨_, hk, fun _ h => h⟩
        · exact hk.elim
    · exact hk.elim
  | indexAddr size x i =>
    simp only [xop] at hk ⊢
    split at hk
    · rename_i rows k n _ _
      obtain ⟨h1, h2, h3⟩ := hk
      have hlt : n.toNat < rows.length := by omega
      obtain ⟨q1, q2⟩ := h3 _ (List.getElem?_eq_getElem hlt)
      refine ⟨_, q2, fun _ h => ⟨h1, h2, fun row hr => ?_⟩⟩
      rw [List.getElem?_eq_getElem hlt] at hr
      cases hr
      exact ⟨q1, h⟩
    · exact hk.elim
  | indexStr x i =>
    simp only [xop] at hk ⊢
    split at hk
    · exact ⟨_, hk.2.2, fun _ h => ⟨hk.1, hk.2.1, h⟩⟩
    · exact hk.elim
  | sliceS x lo hi =>
    simp only [xop] at hk ⊢
    split at hk
    · obtain ⟨l, h1, h2⟩ := bnd_det hk
      obtain ⟨h', h3, h4⟩ := bnd_det h1
      exact ⟨_, h3.2.2.2, fun _ h => h2 _ (h4 _ ⟨h3.1, h3.2.1, h3.2.2.1, h⟩)⟩
    · exact hk.elim
  | sliceR size x lo hi mx =>
    cases mx with
    | none =>
      simp only [xop] at hk ⊢
      split at hk
      · obtain ⟨hz, hk⟩ := hk
        obtain ⟨l, h1, h2⟩ := bnd_det hk
        obtain ⟨h', h3, h4⟩ := bnd_det h1
        exact ⟨_, h3.2.2.2, fun _ h => ⟨hz, h2 _ (h4 _ ⟨h3.1, h3.2.1, h3.2.2.1, h⟩)⟩⟩
      · rename_i e; cases e
      · exact hk.elim
    | some m =>
      simp only [xop] at hk ⊢
      split at hk
      · rename_i e; cases e
      · rename_i m' _ e
        cases e
        obtain ⟨hz, hk⟩ := hk
        obtain ⟨l, h1, h2⟩ := bnd_det hk
        obtain ⟨h', h3, h4⟩ := bnd_det h1
        obtain ⟨mi, h5, h6⟩ := bnd_det h3
        exact ⟨_, h5.2.2.2.2, fun _ h => ⟨hz, h2 _ (h4 _ (h6 _ ⟨h5.1, h5.2.1, h5.2.2.1, h5.2.2.2.1, h⟩))⟩⟩
      · exact hk.elim
  | minmax mx x xs =>
    simp only [xop] at hk ⊢
    split at hk
    · obtain ⟨i, h1, h2⟩ := mmD_det hk
      exact ⟨_, h1, fun K' h => h2 _ h⟩
    · exact hk.elim
  | eqNil | mkMap | mapSet => simp [plainOp] at hp
  | extract x i =>
    simp only [xop] at hk ⊢
    split at hk
    · split at hk
      · exact ⟨_, hk, fun _ h => h⟩
      · exact hk.elim
    · exact hk.elim
  | move x => simp only [xop] at hk ⊢; exact ⟨_, hk, fun _ h => h⟩
  | mkfn f a b => simp only [xop] at hk ⊢; exact ⟨_, hk, fun _ h => h⟩
  | _ =>
    simp only [xop] at hk ⊢
    split at hk <;> first | exact hk.elim | exact ⟨_, hk, fun _ h => h⟩
end
end Go.Ax
