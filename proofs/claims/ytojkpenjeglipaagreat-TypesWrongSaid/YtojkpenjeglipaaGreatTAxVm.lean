import Derived.Test.YtojkpenjeglipaaGreatTAxVl
set_option linter.unusedVariables false
namespace Go.Ax
open Go.RowKit
theorem MA : ∀ (U : List (Nat × Content)) (st : List Content), (CI st U).length = st.length
 | [], st => rfl
 | (b, c) :: r, st => by simp only [CI]; rw [MA r]; simp
theorem Xj : ∀ (U : List (Nat × Content)) (st : List Content) (b : Nat), b ∉ U.map (·.1) → (CI st U)[b]? = st[b]?
 | [], st, b, _ => rfl
 | (x, c) :: r, st, b, h => by
   simp only [List.map_cons, List.mem_cons, not_or] at h
   simp only [CI]
   rw [Xj r _ b h.2, List.getElem?_set_ne (Ne.symm h.1)]
theorem T5 : ∀ (U : List (Nat × Content)) (st st2 : List Content) (b : Nat), st.length = st2.length → (b ∈ U.map (·.1) ∨ st[b]? = st2[b]?) → (CI st U)[b]? = (CI st2 U)[b]?
 | [], st, st2, b, hl, h => by
   rcases h with h | h
   · simp at h
   · exact h
 | (x, c) :: r, st, st2, b, hl, h => by
   simp only [CI]
   refine T5 r _ _ b (by simp [hl]) ?_
   by_cases hx : b ∈ r.map (·.1)
   · exact .inl hx
   · right
     rcases h with h | h
     · simp only [List.map_cons, List.mem_cons] at h
       rcases h with h | h
       · subst h; simp [List.getElem?_set, hl]
       · exact absurd h hx
     · rw [List.getElem?_set, List.getElem?_set]
       by_cases e : x = b
       · subst e; simp [hl]
       · simp [e, h]
theorem SRel.rename {P : Program} {B : Nat} {w0 : World} {M : Mem} {g : Nam} {st : List Content} {w : World} {c : Content} (hc : ∃ e ver rows, c = .row e ver rows) (h : SRel P B w0 M g (st ++ [c]) w) (hwf : WF st) {idx : Nat} (hi : st[idx]? = some .fresh) :
   SRel P B w0 M (fun x u => if x = idx then g st.length u else if x = st.length then none else g x u) (st.set idx c) w ∧ NLe st.length g (fun x u => if x = idx then g st.length u else if x = st.length then none else g x u) := by
 have hil : idx < st.length := (List.getElem?_eq_some_iff.1 hi).1
 have hn : ∀ u, g idx u = none := h.cont idx .fresh (by rw [List.getElem?_append_left hil]; exact hi)
 have hlast : BB4 P B M g w st.length c := h.cont st.length c (by simp)
 have hN : NLe st.length g (fun x u => if x = idx then g st.length u else if x = st.length then none else g x u) := fun x hx ver v e => by
   have : x ≠ idx := fun hh => by rw [hh, hn] at e; cases e
   simp only [if_neg this, if_neg (show ¬ x = st.length by omega)]
   exact e
 have hsame : ∀ x, x ≠ idx → x ≠ st.length → ∀ u, (fun x u => if x = idx then g st.length u else if x = st.length then none else g x u) x u = g x u := fun x h1 h2 u => by simp [h1, h2]
 have hsame2 : ∀ u, (fun x u => if x = idx then g st.length u else if x = st.length then none else g x u) idx u = g st.length u := fun u => by simp
 have hblk : ∀ x d, x ≠ idx → x ≠ st.length → Bl (fun x u => if x = idx then g st.length u else if x = st.length then none else g x u) x d = Bl g x d := fun x d h1 h2 => by cases d <;> simp [Bl, h1, h2]
 have hblk2 : ∀ d, Bl (fun x u => if x = idx then g st.length u else if x = st.length then none else g x u) idx d = Bl g st.length d := fun d => by cases d <;> simp [Bl]
 have get : ∀ x d, (st.set idx c)[x]? = some d → (x = idx ∧ d = c) ∨ (x ≠ idx ∧ x < st.length ∧ st[x]? = some d) := fun x d hx => by
   rcases AK9 hx with ⟨e1, _, e2⟩ | ⟨e1, e2⟩
   · exact .inl ⟨e1, e2⟩
   · exact .inr ⟨e1, (List.getElem?_eq_some_iff.1 e2).1, e2⟩
 have lift : ∀ x d, x < st.length → st[x]? = some d → (st ++ [c])[x]? = some d := fun x d hx e => by rw [List.getElem?_append_left hx]; exact e
 refine ⟨⟨h.below, h.hB, h.mem, fun x d hx => ?_, fun x ver v e => ?_, fun x y d d' b hne hx hy hb => ?_⟩, hN⟩
 · rcases get x d hx with ⟨rfl, rfl⟩ | ⟨h1, h2, h3⟩
   · obtain ⟨e, ver, rows, rfl⟩ := hc
     obtain ⟨v, fl, size, q1, q2, q3, q4⟩ := hlast
     exact ⟨v, fl, size, by rw [hsame2]; exact q1, fun u hu => by rw [hsame2]; exact q2 u hu, q3, q4⟩
   · have hcx := h.cont x d (lift x d h2 h3)
     have hs := hsame x h1 (by omega)
     cases d with
     | dead => trivial
     | fresh => intro u; rw [hs]; exact hcx u
     | box cells =>
       obtain ⟨b, vs, T, q1, q2, q3, q4, q5, q6⟩ := hcx
       have hb := hwf cells (List.mem_of_getElem? h3)
       exact ⟨b, vs, T, by rw [hs]; exact q1, q2, q3, ⟨q4.1, fun i v p e1 e2 => (q4.2 i v p e1 e2).mono' (MLe.refl M) hN (H3 _ cells hb p (List.mem_of_getElem? e2))⟩, q5, q6⟩
     | row e ver rows =>
       obtain ⟨v, fl, size, q1, q2, q3⟩ := hcx
       exact ⟨v, fl, size, by rw [hs]; exact q1, fun u hu => by rw [hs]; exact q2 u hu, q3⟩
     | map k e ks =>
       obtain ⟨b, D, q1, q2⟩ := hcx
       exact ⟨b, D, by rw [hs]; exact q1, q2⟩
 · rw [List.length_set]
   by_cases h1 : x = idx
   · omega
   · by_cases h2 : x = st.length
     · simp [h1, h2] at e
       omega
     · rw [if_neg h1, if_neg h2] at e
       have := h.dom x ver v e
       simp at this
       omega
 · rcases get x d hx with ⟨rfl, rfl⟩ | ⟨h1, h2, h3⟩
   · rcases get y d' hy with ⟨rfl, rfl⟩ | ⟨k1, k2, k3⟩
     · exact absurd rfl hne
     · rw [hblk y d' k1 (by omega)]
       rw [hblk2] at hb
       exact h.sep st.length y d d' b (by omega) (by simp) (lift y d' k2 k3) hb
   · rw [hblk x d h1 (by omega)] at hb
     rcases get y d' hy with ⟨rfl, rfl⟩ | ⟨k1, k2, k3⟩
     · rw [hblk2]
       exact h.sep x st.length d d' b (by omega) (lift x d h2 h3) (by simp) hb
     · rw [hblk y d' k1 (by omega)]
       exact h.sep x y d d' b hne (lift x d h2 h3) (lift y d' k2 k3) hb
theorem BU7.calls {P : Program} {f : FuncId} {args : List PV} {st : List Content} {idx : Nat} {v : PV} {U : List (Nat × Content)} (h : BU7 P f args st idx v U) : Aw P f args st (fun p st' => p = v ∧ st' = CI st U) := by
 refine ⟨h.1, fun B w0 M g w vs hs hr => (h.2 B w0 M g w vs hs hr).mono fun e w' ⟨v1, p, st', M', g', a1, a2, a3, a4, a5, a6, a7⟩ => ?_⟩
 rcases a7 with a7 | ⟨e, ver, rows, hi, rfl, rfl, rfl, rfl⟩
 · exact ⟨v1, p, st', M', g', a1, a2, a3, a4, a5, a6, a7⟩
 · obtain ⟨q1, q2⟩ := a5.rename ⟨e, ver, rows, rfl⟩ hs.wf hi
   refine ⟨v1, .own idx ver, st.set idx (.row e ver rows), M', _, a1, a2, a3.trans q2, by simp, q1, ?_, rfl, rfl⟩
   cases a6 with
   | own hg h1 => exact .own (by simp; exact hg) h1
def Ch0 (P : Program) (o : XOp) (s : XS) (v : PV) (U : List (Nat × Content)) (R : List Nat) : Prop :=
 ∀ s2 : XS, s2.st.length = s.st.length → (∀ t, t ∈ ments o → s2.r t = s.r t) → (∀ b, b ∈ R → s2.st[b]? = s.st[b]?) →
   ∀ (N B : Nat) (w0 : World) (M : Mem) (g : Nam) (a : Act) (w : World) (oper : Oper) (next : Act → World → Prop) (Q : Exit → Act → World → Prop), XRel P N B w0 M g s2 a w → cOp P N oper = some o →
     (∀ v' w' M' g', MLe M M' → NLe s2.st.length g g' → SRel P B w0 M' g' (CI s2.st U) w' → RepV M' g' v' v → next (a.put oper.dst v') w') → oper.wp P a w next Q
section
variable {P : Program} {s : XS}
theorem An1 {o : XOp} {v : PV} {U : List (Nat × Content)} {R : List Nat}
   (h : ∀ s2 : XS, s2.st.length = s.st.length → (∀ t, t ∈ ments o → s2.r t = s.r t) → (∀ b, b ∈ R → s2.st[b]? = s.st[b]?) → ∀ K : PV → List Content → Prop, K v (CI s2.st U) → xop P o K s2) : Ch0 P o s v U R := by
 intro s2 hl hm hr N B w0 M g a w oper next Q hx hc hn
 refine op_sound hx hc (h s2 hl hm hr (fun p st' => p = v ∧ st' = CI s2.st U) ⟨rfl, rfl⟩) fun v' w' ⟨p, st', M', g', a1, a2, a3, a4, a5, a6⟩ => ?_
 obtain ⟨rfl, rfl⟩ := a6
 exact hn v' w' M' g' a1 a2 a4 a5
theorem Bh8 {B : Nat} {w0 : World} {M : Mem} {g : Nam} {st : List Content} {w : World} (h : SRel P B w0 M g st w) {x : Nat} (hx : st[x]? = some .fresh) : ∀ u, g x u = none := h.cont x _ hx
theorem SRel.fill_box {B : Nat} {w0 : World} {M : Mem} {g : Nam} {st : List Content} {w : World} (h : SRel P B w0 M g st w) {x : Nat} (hx : st[x]? = some .fresh) (vs : List Value) (cells : List PV) (T : TypeId) (hr : CK M g vs cells) (ho : ∀ p, p ∈ cells → p.one = true) :
   ∃ g', SRel P B w0 M g' (st.set x (.box cells)) (w.alloc (.cells vs.toArray T)) ∧ NLe st.length g g' ∧ g' x 0 = some (.pointer (some ⟨w.heap.size, 0, none⟩), true) := by
 have hn := Bh8 h hx
 have hN : NLe st.length g (g.put x 0 (.pointer (some ⟨w.heap.size, 0, none⟩), true)) := fun y hy r q e => by
   simp only [Nam.put]
   rw [if_neg (fun hh => by rw [hh.1, hn] at e; cases e)]
   exact e
 have hout := h.write hx (w' := w.alloc (.cells vs.toArray T)) (g' := g.put x 0 (.pointer (some ⟨w.heap.size, 0, none⟩), true)) (c' := .box cells) (World.grownBy_alloc w _ _) (fun y hy u => by simp [Nam.put, hy])
   (fun u v e => by rw [hn] at e; cases e) (fun a u _ hb => by simp [Bl] at hb)
   ⟨w.heap.size, vs, T, by simp [Nam.put], h.hB, Bd7 w _, hr.mono (MLe.refl _) hN h.dom, ho, fun a ha => by
     cases e : M a with
     | none => rfl
     | some u => have := PN h e; omega⟩
   (fun b hb => by right; simp [Bl, Nam.put] at hb; omega)
 exact ⟨_, hout.1, hout.2, by simp [Nam.put]⟩
theorem SRel.fill_row {B : Nat} {w0 : World} {M : Mem} {g : Nam} {st : List Content} {w : World} (h : SRel P B w0 M g st w) {x : Nat} (hx : st[x]? = some .fresh) {v : Value} {rows : List (List D)} (hv : RepV M g v (.ex rows)) (e : TypeId) {size : Nat} (hsize : (P.info? e).map (·.size) = some size)
   (hz : ∀ row, row ∈ rows → row.length = size) : ∃ fl g', SRel P B w0 M g' (st.set x (.row e 0 rows)) w ∧ NLe st.length g g' ∧ g' x 0 = some (v, fl) := by
 have hn := Bh8 h hx
 have hN : ∀ fl, NLe st.length g (g.put x 0 (v, fl)) := fun fl y hy r q e => by
   simp only [Nam.put]
   rw [if_neg (fun hh => by rw [hh.1, hn] at e; cases e)]
   exact e
 have hgr : w.grownBy w (Bl g x .fresh) := ⟨rfl, rfl, rfl, Nat.le_refl _, fun _ _ _ => rfl⟩
 cases hv with
 | exnil =>
   have hout := h.write hx (w' := w) (g' := g.put x 0 (.slice none 0 0, true)) (c' := .row e 0 []) hgr (fun y hy u => by simp [Nam.put, hy]) (fun u v e => by rw [hn] at e; cases e) (fun a u _ hb => by simp [Bl] at hb)
     ⟨_, true, size, by simp [Nam.put], fun u hu => by simp only [Nam.put]; rw [if_neg (by omega)]; exact hn u, hsize,
       .inl ⟨rfl, [], World.ownsRow_nil w B e size, fun i row hr => by simp at hr, fun b hb => by simp [Value.ownBlock] at hb⟩⟩
     (fun b hb => by simp [Bl, Nam.put, Value.ownBlock] at hb)
   exact ⟨true, _, hout.1, hout.2, by simp [Nam.put]⟩
 | ex a rows hd =>
   have hout := h.write hx (w' := w) (g' := g.put x 0 (.slice (some a) rows.length rows.length, false)) (c' := .row e 0 rows) hgr (fun y hy u => by simp [Nam.put, hy]) (fun u v e => by rw [hn] at e; cases e) (fun a u _ hb => by simp [Bl] at hb)
     ⟨_, false, size, by simp [Nam.put], fun u hu => by simp only [Nam.put]; rw [if_neg (by omega)]; exact hn u, hsize, .inr ⟨rfl, hz, a, rfl, hd⟩⟩
     (fun b hb => by simp [Bl, Nam.put] at hb)
   exact ⟨false, _, hout.1, hout.2, by simp [Nam.put]⟩
theorem Cc2 {P : Program} {N : Nat} {o : Oper} {x : XA} (hc : cOp P N o = some (.box x)) : ∃ t y, o.op = .box t y ∧ cA N y = some x := by
 replace hc := AE2 hc (fun e => by cases e)
 cases ho : o.op with
 | box t y => simp only [GK, ho] at hc; cases e1 : cA N y <;> simp [e1] at hc; subst hc; exact ⟨t, y, rfl, e1⟩
 | makeFunc fn a b => cases fn <;> simp only [GK, ho] at hc <;> (repeat' split at hc) <;> first | (cases hc; done) | (simp at hc; done)
 | makeMap t r => cases r <;> simp only [GK, ho] at hc <;> (repeat' split at hc) <;> first | (cases hc; done) | (simp at hc; done)
 | _ => simp only [GK, ho] at hc; (repeat' split at hc) <;> first | (cases hc; done) | (simp at hc; done)
theorem BR5 {P : Program} {N : Nat} {o : Oper} {zs : List PV} (hc : cOp P N o = some (.alloc zs)) : ∃ t i z, o.op = .alloc t ∧ P.info? t = some i ∧ i.zero = some z ∧ Al4 z = some zs := by
 replace hc := AE2 hc (fun e => by cases e)
 cases ho : o.op with
 | alloc t =>
   simp only [GK, ho] at hc
   cases e1 : P.info? t with
   | none => simp [e1] at hc
   | some i =>
     simp only [e1] at hc
     cases e2 : i.zero with
     | none => simp [e2] at hc
     | some z =>
       simp only [e2] at hc
       cases e3 : Al4 z <;> simp [e3] at hc; subst hc
       exact ⟨t, i, z, rfl, e1, e2, e3⟩
 | makeFunc fn a b => cases fn <;> simp only [GK, ho] at hc <;> (repeat' split at hc) <;> first | (cases hc; done) | (simp at hc; done)
 | makeMap t r => cases r <;> simp only [GK, ho] at hc <;> (repeat' split at hc) <;> first | (cases hc; done) | (simp at hc; done)
 | _ => simp only [GK, ho] at hc; (repeat' split at hc) <;> first | (cases hc; done) | (simp at hc; done)
theorem BM1 {P : Program} {N : Nat} {o : Oper} {e size bytes : Nat} {xa ya : XA} (hc : cOp P N o = some (.append e size bytes xa ya)) :
   ∃ c x y t i z, o.op = .call c ∧ c.callee = .builtin .append ∧ c.args.toList = [x, y] ∧ c.argTypes.toList = [t, t] ∧ P.underlying t = some (.slice e) ∧ P.info? e = some i ∧ i.zero = some z ∧ z.cells.size = i.size ∧ 0 < i.size ∧ 0 < i.bytes ∧ size = i.size ∧ bytes = i.bytes ∧ cA N x = some xa ∧ cA N y = some ya := by
 replace hc := AE2 hc (fun e => by cases e)
 cases ho : o.op with
 | call c =>
   simp only [GK, ho] at hc
   split at hc
   case h_6 =>
     rename_i hcal
     split at hc
     · rename_i x y t u e1 e2
       split at hc
       · rename_i e xa ya q1 q2 q3
         cases e4 : P.info? e with
         | none => simp [e4] at hc
         | some i =>
           simp only [e4] at hc
           cases e5 : i.zero with
           | none => simp [e5] at hc
           | some z =>
             simp only [e5] at hc
             split at hc
             · rename_i hcond
               obtain ⟨rfl, c1, c2, c3⟩ := hcond
               cases hc
               exact ⟨c, x, y, t, i, z, rfl, hcal, e1, e2, q1, e4, e5, c1, c2, c3, rfl, rfl, q2, q3⟩
             · cases hc
       · cases hc
     · cases hc
   all_goals ((repeat' split at hc) <;> first | (cases hc; done) | (simp at hc; done))
 | makeFunc fn a b => cases fn <;> simp only [GK, ho] at hc <;> (repeat' split at hc) <;> first | (cases hc; done) | (simp at hc; done)
 | makeMap t r => cases r <;> simp only [GK, ho] at hc <;> (repeat' split at hc) <;> first | (cases hc; done) | (simp at hc; done)
 | _ => simp only [GK, ho] at hc; (repeat' split at hc) <;> first | (cases hc; done) | (simp at hc; done)
theorem Bq3 {o : XOp} {idx : Nat} {K : PV → List (Nat × Content) → List Nat → Prop} (hk : Gp P o idx K s) :
   ∃ v U R, K v U R ∧ (∀ b, b ∈ U.map (·.1) → b ∈ R) ∧ Ch0 P o s v U R := by
 by_cases hp : Dp o = true
 · have hk' : xop P o (fun v _ => K v [] (ER o s)) s := by cases o <;> first | exact hk | simp [Dp] at hp
   obtain ⟨v, h1, h2⟩ := Cc6 hp hk'
   refine ⟨v, [], ER o s, h1, by simp, An1 fun s2 hl hm hr K2 hK2 => ?_⟩
   rw [Cb3 hp hm hr]
   exact h2 (fun v => K2 v s2.st) hK2
 · cases o with
   | box x =>
     simp only [Gp] at hk
     obtain ⟨hidx, h1, hk⟩ := hk
     refine ⟨_, _, _, hk, by simp, fun s2 hl hm hr N B w0 M g a w oper next Q hx hc hn => ?_⟩
     have hfr : s2.st[idx]? = some .fresh := by rw [hr idx (by simp)]; exact hidx
     have he := Be (x := x) (s := s) (s2 := s2) hm
     obtain ⟨t, y, ho, e1⟩ := Cc2 hc
     have rx := BT hx e1
     rw [he] at rx
     have hcells := rx.toCells (Bx1 h1)
     obtain ⟨g', q1, q2, q3⟩ := hx.st.fill_box hfr (a.eval y).cells.toList (ev s x).cells t hcells (Bd2 h1)
     rw [Array.toArray_toList] at q1
     unfold Oper.wp
     rw [show (execOp a.eval oper).run P w = .ok (.value (.pointer (some ⟨w.heap.size, 0, none⟩))) (w.alloc (.cells (a.eval y).cells t)) by simp [execOp, ho, Instr.box, newVar, newRow]]
     exact hn _ _ M g' (MLe.refl M) q2 q1 (.ptr q3)
   | alloc zero =>
     simp only [Gp] at hk
     obtain ⟨hidx, hk⟩ := hk
     refine ⟨_, _, _, hk, by simp, fun s2 hl hm hr N B w0 M g a w oper next Q hx hc hn => ?_⟩
     have hfr : s2.st[idx]? = some .fresh := by rw [hr idx (by simp)]; exact hidx
     obtain ⟨t, i, z, ho, e1, e2, e3⟩ := BR5 hc
     obtain ⟨r1, r2⟩ := Am8 e3 M g
     obtain ⟨g', q1, q2, q3⟩ := hx.st.fill_box hfr z.cells.toList zero t r1 r2
     rw [Array.toArray_toList] at q1
     unfold Oper.wp
     rw [show (execOp a.eval oper).run P w = .ok (.value (.pointer (some ⟨w.heap.size, 0, none⟩))) (w.alloc (.cells z.cells t)) by simp [execOp, ho, Instr.alloc, newVar, newRow, AD2 e1 e2]]
     exact hn _ _ M g' (MLe.refl M) q2 q1 (.ptr q3)
   | store size x y =>
     simp only [Gp] at hk
     split at hk
     · rename_i b off hev
       split at hk
       · rename_i cells hst
         obtain ⟨h1, h2, h3, hk⟩ := hk
         refine ⟨_, _, _, hk, by simp, An1 fun s2 hl hm hr K2 hK2 => ?_⟩
         have e1 := Be (x := x) (s := s) (s2 := s2) (fun t ht => hm t (by simp [ments, ht]))
         have e2 := Be (x := y) (s := s) (s2 := s2) (fun t ht => hm t (by simp [ments, ht]))
         have e3 := hr b (by simp)
         simp only [xop, e1, e2, hev, e3, hst]
         exact ⟨h1, h2, h3, hK2⟩
       · exact hk.elim
     · exact hk.elim
   | append e size bytes x y =>
     simp only [Gp] at hk
     split at hk
     case h_2 => exact hk.elim
     rename_i ys hys
     obtain ⟨hyl, hk⟩ := hk
     split at hk
     · rename_i rows hev
       obtain ⟨hidx, hrl, hbound, hk⟩ := hk
       refine ⟨_, _, _, hk, by simp, fun s2 hl hm hr N B w0 M g a w oper next Q hx hc hn => ?_⟩
       have hfr : s2.st[idx]? = some .fresh := by rw [hr idx (by simp)]; exact hidx
       obtain ⟨c, x', y', t, i, z, ho, hcal, e1, e2, e3, e4, e5, e6, e7, e8, rfl, rfl, e9, e10⟩ := BM1 hc
       have c1 := Be (x := x) (s := s) (s2 := s2) (fun t ht => hm t (by simp [ments, ht]))
       have c2 := Be (x := y) (s := s) (s2 := s2) (fun t ht => hm t (by simp [ments, ht]))
       have rx := BT hx e9
       have ry := BT hx e10
       rw [c1, hev] at rx
       rw [c2] at ry
       have hys2 : A4 s2.st (ev s y) = some ys := by rw [K4 (st := s.st) (fun b hb => hr b (by simp [hb]))]; exact hys
       obtain ⟨fl, g1, s1, n1, o1⟩ := hx.st.fill_row hfr rx e (size := i.size) (by simp [e4]) hrl
       have hxl : idx < s2.st.length := (List.getElem?_eq_some_iff.1 hfr).1
       have hst1 : (s2.st.set idx (.row e 0 rows))[idx]? = some (.row e 0 rows) := by simp [hxl]
       have hys3 : A4 (s2.st.set idx (.row e 0 rows)) (ev s y) = some ys := by
         revert hys2
         generalize ev s y = py
         cases py with
         | own tt ver =>
           simp only [A4]
           intro hh
           by_cases hti : tt = idx
           · subst hti; rw [hfr] at hh; cases hh
           · rw [List.getElem?_set_ne (Ne.symm hti)]; exact hh
         | d q => cases q <;> exact id
         | _ => exact id
       obtain ⟨v', fl', w', g', q1, q2, q3, q4, q5⟩ := s1.append_own hst1 o1 (ry.mono (MLe.refl M) n1 hx.st.dom) hys3 t oper.type e3 i e4 z e5 e6 e7 e8 hyl hbound
       unfold Oper.wp
       rw [MO ho hcal (v := v') (w' := w') fun cs => by
         rw [As4 e1, As4 e2]
         simp [builtin, q1]]
       refine hn _ _ M g' (MLe.refl M) (n1.trans (q2.mono (by simp))) ?_ (.own q4 q5)
       rw [List.set_set] at q3
       exact q3
     · rename_i tt ver hev
       split at hk
       · rename_i e' ver' rows hst
         obtain ⟨rfl, rfl, hbound, hk⟩ := hk
         refine ⟨_, _, _, hk, by simp, An1 fun s2 hl hm hr K2 hK2 => ?_⟩
         have c1 := Be (x := x) (s := s) (s2 := s2) (fun t ht => hm t (by simp [ments, ht]))
         have c2 := Be (x := y) (s := s) (s2 := s2) (fun t ht => hm t (by simp [ments, ht]))
         have c3 := hr tt (by simp)
         have c4 := K4 (st := s.st) (st2 := s2.st) (p := ev s y) (fun b hb => hr b (by simp [hb]))
         simp only [xop, c1, c2, c3, c4, hys, hev, hst]
         exact ⟨hyl, trivial, trivial, hbound, hK2⟩
       · exact hk.elim
     · exact hk.elim
   | call f args =>
     simp only [Gp] at hk
     obtain ⟨v, U, R, h1, h2⟩ := hk
     refine ⟨v, U, _, h2, fun b hb => by simp [hb], An1 fun s2 hl hm hr K2 hK2 => ?_⟩
     have e1 := At7 (xs := args) (s := s) (s2 := s2) hm (fun b hb => hr b (by simp [hb]))
     simp only [xop, e1]
     exact (h1 s2.st hl (fun b hb => hr b (by simp [hb]))).calls.mono fun p st' hps => by rw [hps.1, hps.2]; exact hK2
   | dyn x args =>
     simp only [Gp] at hk
     split at hk
     · rename_i f ps qs hev
       obtain ⟨v, U, R, h1, h2⟩ := hk
       refine ⟨v, U, _, h2, fun b hb => by simp [hb], An1 fun s2 hl hm hr K2 hK2 => ?_⟩
       have e0 := Be (x := x) (s := s) (s2 := s2) (fun t ht => hm t (by simp [ments, ht]))
       have e1 := At7 (xs := args) (s := s) (s2 := s2) (fun t ht => hm t (by simp [ments, ht])) (fun b hb => hr b (by simp [hb]))
       simp only [xop, e0, hev, e1]
       exact (h1 s2.st hl (fun b hb => hr b (by simp [hb]))).calls.mono fun p st' hps => by rw [hps.1, hps.2]; exact hK2
     · exact hk.elim
   | mapSet k e m x y =>
     simp only [Gp] at hk
     split at hk
     · rename_i t b vb hm1 hx1 hy1
       split at hk
       · rename_i k' e' ks hst
         obtain ⟨h1, h2, h3, h4, hk⟩ := hk
         refine ⟨_, _, _, hk, by simp, An1 fun s2 hl hm hr K2 hK2 => ?_⟩
         have c1 := Be (x := m) (s := s) (s2 := s2) (fun t ht => hm t (by simp [ments, ht]))
         have c2 := Be (x := x) (s := s) (s2 := s2) (fun t ht => hm t (by simp [ments, ht]))
         have c3 := Be (x := y) (s := s) (s2 := s2) (fun t ht => hm t (by simp [ments, ht]))
         have c4 := hr t (by simp)
         simp only [xop, c1, c2, c3, c4, hm1, hx1, hy1, hst]
         exact ⟨h1, h2, h3, h4, hK2⟩
       · exact hk.elim
     · exact hk.elim
   | mkMap => exact hk.elim
   | eqNil => exact hk.elim
   | _ => simp [Dp] at hp
end
end Go.Ax
