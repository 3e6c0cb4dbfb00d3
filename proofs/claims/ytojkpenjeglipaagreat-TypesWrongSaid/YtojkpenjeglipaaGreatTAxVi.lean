import Derived.Test.YtojkpenjeglipaaGreatTAxVh
set_option linter.unusedVariables false
namespace Go.Ax
open Go.RowKit
theorem Bx3 (us : List Value) : ∀ (off k : Nat) (cells : Array Value), off + k + us.length ≤ cells.size →
   (us.zipIdx k).foldl (fun cs (p : Value × Nat) => cs.setIfInBounds (off + p.2) p.1) cells = (splice cells.toList (off + k) us).toArray := by
 induction us with
 | nil => intro off k cells h; simp [splice]
 | cons u r ih =>
   intro off k cells h
   simp only [List.length_cons] at h
   simp only [List.zipIdx_cons, List.foldl_cons]
   rw [ih off (k + 1) _ (by simp; omega)]
   unfold splice
   congr 1
   have e := list_seg_step cells.toList (off + k) u r (by simp; omega)
   simp only [Array.toList_setIfInBounds, List.length_cons]
   rw [← e]
   rfl
theorem Bs4 (place : Nat → Option (Nat × Nat)) (cells : Array Value) (i : Nat) (v : Value) (rest : List (Nat × Value)) (off size : Nat) (hp : place i = some (off, size)) (hs : v.cells.size = size) (hl : off + size ≤ cells.size) :
   Instr.fill place cells ((i, v) :: rest) = Instr.fill place (splice cells.toList off v.cells.toList).toArray rest := by
 simp only [Instr.fill, hp]
 rw [if_neg (by simp; omega)]
 congr 1
 have := Bx3 v.cells.toList off 0 cells (by simp; omega)
 rw [← Array.foldl_toList]
 simp only [Array.toList_zipIdx]
 simpa using this
section
variable {P : Program} {N B : Nat} {w0 : World} {M : Mem} {g : Nam} {s : XS} {a : Act} {w : World} {K : PV → List Content → Prop} {o : Oper}
theorem Bk3 (h : XRel P N B w0 M g s a w) {places : List (Nat × Nat)} {n : Nat} : ∀ (parts : List (Nat × Operand)) (xps : List (Nat × Nat × XA)) (vs : List Value) (acc : List PV), Aj8 N places parts = some xps → DU s n xps → CK M g vs acc → acc.length = n →
   ∃ vs', Instr.fill (fun i => places[i]?) vs.toArray (parts.map fun (i, x) => (i, a.eval x)) = some vs'.toArray ∧ CK M g vs' (Gk s acc xps)
 | [], xps, vs, acc, hc, hok, hr, hn => by simp [Aj8] at hc; subst hc; exact ⟨vs, rfl, hr⟩
 | (i, x) :: rest, xps, vs, acc, hc, hok, hr, hn => by
   simp only [Aj8] at hc
   cases h1 : places[i]? with
   | none => simp [h1] at hc
   | some q => cases h2 : cA N x with
     | none => simp [h1, h2] at hc
     | some xa => cases h3 : Aj8 N places rest with
       | none => simp [h1, h2, h3] at hc
       | some ps =>
         simp [h1, h2, h3] at hc
         subst hc
         obtain ⟨k1, k2, k3, k4⟩ := hok
         have rx := BT h h2
         have hcells := rx.toCells (Bx1 k3)
         have hcl := hcells.1
         have hvl := hr.1
         rw [List.map_cons, Bs4 (fun i => places[i]?) vs.toArray i (a.eval x) _ q.1 q.2 h1 (by have := hcl; simp at this; omega) (by simp; omega)]
         have hr' := hr.splice hcells q.1
         have hlen : (splice acc q.1 (ev s xa).cells).length = n := by simp [splice]; omega
         obtain ⟨vs', e1, e2⟩ := Bk3 h rest ps (splice vs q.1 (a.eval x).cells.toList) (splice acc q.1 (ev s xa).cells) h3 k4 hr' hlen
         exact ⟨vs', e1, e2⟩
theorem BL1 {places : List (Nat × Nat)} : ∀ (fs : List Field), Uh P fs = some places → ∀ w, (fs.mapM (fun f => (do pure (f.offset, ← sizeOf f.type) : Sem (Nat × Nat)))).run P w = .ok places w := by
 intro fs
 induction fs generalizing places with
 | nil => intro h w; simp [Uh] at h; subst h; simp
 | cons f r ih =>
   intro h w
   simp only [Uh] at h
   cases h1 : P.info? f.type with
   | none => simp [h1] at h
   | some i => cases h2 : Uh P r with
     | none => simp [h1, h2] at h
     | some ps =>
       simp [h1, h2] at h
       subst h
       have := ih h2 w
       simp only [List.mapM_cons, Sem.run_bind, Ed h1, Result.andThen_ok, Sem.run_pure, this]
theorem Cc3 (h : XRel P N B w0 M g s a w) {t : TypeId} {i : TypeInfo} {fields : Array Field} {z : Value} {zs : List PV} {places : List (Nat × Nat)} {parts : Array (Nat × Operand)} {xps : List (Nat × Nat × XA)} (hi : P.info? t = some i) (ht : P.underlying t = some (.struct fields)) (hz : i.zero = some z)
   (hc : Al4 z = some zs) (hp : Uh P fields.toList = some places) (hx : Aj8 N places parts.toList = some xps) (ho : o.op = .build t parts) (hk : xop P (.build zs xps) K s) : HU P B w0 M g s K o a w := by
 simp only [xop] at hk
 obtain ⟨hok, hk⟩ := hk
 obtain ⟨r1, r2⟩ := Am8 hc M g
 obtain ⟨vs', e1, e2⟩ := Bk3 h parts.toList xps z.cells.toList zs hx hok r1 rfl
 refine AU (v := .agg vs'.toArray) (w' := w) ?_ (.plain h (.agg _ _ e2.1 e2.2) hk)
 have hpl := BL1 (P := P) fields.toList hp w
 have hmap : (fields.mapM (fun f => (do pure (f.offset, ← sizeOf f.type) : Sem (Nat × Nat)))).run P w = .ok places.toArray w := by
   rw [Array.mapM_eq_mapM_toList]
   simp only [Sem.run_map, hpl, Result.andThen_ok]
 have e1' : Instr.fill (fun i => places.toArray[i]?) z.cells (parts.toList.map fun (i, x) => (i, a.eval x)) = some vs'.toArray := by
   rw [Array.toArray_toList] at e1
   rw [← e1]
   congr 1
   funext i
   simp
 simp only [execOp, ho, Instr.build, Sem.run_bind, AD2 hi hz, run_underlying ht, Result.andThen_ok, hmap, Array.toList_map]
 rw [e1']
 rfl
theorem Bx9 {st : List Content} : ∀ {vs : List Value} {ps : List PV} {M : Mem} {row : List D}, SRel P B w0 M g st w → CK M g vs ps → Ie st ps = some row →
   ∃ M', MLe M M' ∧ SRel P B w0 M' g st w ∧ row.length = vs.length ∧ ∀ (j : Nat) (d : D), row[j]? = some d → ∃ u, vs[j]? = some u ∧ RepD M' u d
 | vs, [], M, row, h, hr, ht => by
   simp [Ie] at ht
   subst ht
   exact ⟨M, MLe.refl M, h, by have := hr.1; simp at this; simp [this], fun j d hj => by simp at hj⟩
 | [], p :: ps, M, row, h, hr, ht => by have := hr.1; simp at this
 | v :: vs, p :: ps, M, row, h, hr, ht => by
   simp only [Ie] at ht
   cases h1 : toD st p with
   | none => simp [h1] at ht
   | some x => cases h2 : Ie st ps with
     | none => simp [h1, h2] at ht
     | some xs =>
       simp [h1, h2] at ht
       subst ht
       obtain ⟨M1, a1, a2, a3⟩ := h.frz_ok (hr.2 0 v p rfl rfl)
       have hd : RepD M1 v x := by
         simp only [toD] at h1
         generalize frz st p = q at h1 a3
         cases q <;> simp at h1
         subst h1
         cases a3 with | d hd => exact hd
       have hr' : CK M g vs ps := ⟨by have := hr.1; simpa using this, fun i u q e1 e2 => hr.2 (i + 1) u q (by simpa using e1) (by simpa using e2)⟩
       obtain ⟨M2, b1, b2, b3, b4⟩ := Bx9 a2 (hr'.mono a1 (NLe.refl st.length g) h.dom) h2
       refine ⟨M2, a1.trans b1, b2, by simp [b3], fun j d hj => ?_⟩
       cases j with
       | zero => simp at hj; subst hj; exact ⟨v, rfl, hd.mono b1⟩
       | succ j => simp at hj; obtain ⟨u, c1, c2⟩ := b4 j d hj; exact ⟨u, by simpa using c1, c2⟩
theorem BT0 {M : Mem} {v : Value} {p : PV} (h : RepV M g v p) {st : List Content} {row : List D} (ht : Ie st p.cells = some row) : CK M g v.cells.toList p.cells := by
 refine h.toCells ?_
 cases p with
 | agg cs => exact .inr ⟨cs, rfl⟩
 | tup vs => simp [PV.cells, Ie, toD, frz] at ht
 | undef => simp [PV.cells, Ie, toD, frz] at ht
 | _ => left; rfl
theorem BS9 (cur us : List Value) (k size : Nat) (hu : us.length = size) (pre : List Value) (hp : pre.length = k * size) (tail : List Value) (hc : cur = pre ++ tail) (ht : size ≤ tail.length) :
   splice cur (k * size) us = (pre ++ us) ++ tail.drop size := by
 subst hc
 unfold splice
 rw [← hp, List.take_left, hu]
 simp [List.drop_append]
theorem Bi5 (h : XRel P N B w0 M g s a w) {size : Nat} : ∀ (parts : List (Nat × Operand)) (xas : List XA) (rows : List (List D)) (k : Nat) (pre tail : List Value) (M : Mem), SRel P B w0 M g s.st w → (∀ x xa, cA N x = some xa → RepV M g (a.eval x) (ev s xa)) →
   ON N k parts = some xas → C2 s size xas = some rows → pre.length = k * size → tail.length = parts.length * size →
   ∃ M' xs, MLe M M' ∧ SRel P B w0 M' g s.st w ∧ Instr.fill (fun i => some (i * size, size)) (pre ++ tail).toArray (parts.map fun (i, x) => (i, a.eval x)) = some (pre ++ xs).toArray ∧ xs.length = rows.length * size ∧ PX M' size xs rows ∧ rows.length = parts.length
 | [], xas, rows, k, pre, tail, M, hs, hrep, hc, hro, hp, ht => by
   simp [ON] at hc
   subst hc
   simp [C2] at hro
   subst hro
   have : tail = [] := List.eq_nil_of_length_eq_zero (by simpa using ht)
   subst this
   exact ⟨M, [], MLe.refl M, hs, rfl, by simp, fun i row hr => by simp at hr, rfl⟩
 | (i, x) :: rest, xas, rows, k, pre, tail, M, hs, hrep, hc, hro, hp, ht => by
   simp only [ON] at hc
   split at hc
   case isFalse => cases hc
   rename_i hik
   subst hik
   cases h2 : cA N x with
   | none => simp [h2] at hc
   | some xa => cases h3 : ON N (i + 1) rest with
     | none => simp [h2, h3] at hc
     | some ps =>
       simp [h2, h3] at hc
       subst hc
       simp only [C2] at hro
       cases h4 : Ie s.st (ev s xa).cells with
       | none => simp [h4] at hro
       | some row => cases h5 : C2 s size ps with
         | none => simp [h4, h5] at hro
         | some rs =>
           simp only [h4, h5] at hro
           split at hro
           case isFalse => cases hro
           rename_i hrl
           simp at hro
           subst hro
           have rx := hrep x xa h2
           obtain ⟨M1, a1, a2, a3, a4⟩ := Bx9 hs (BT0 rx h4) h4
           have hvl : (a.eval x).cells.toList.length = size := by omega
           rw [List.length_cons, Nat.add_mul, Nat.one_mul] at ht
           have hsp := BS9 (pre ++ tail) (a.eval x).cells.toList i size hvl pre hp tail rfl (by omega)
           rw [List.map_cons, Bs4 (fun i => some (i * size, size)) (pre ++ tail).toArray i (a.eval x) _ (i * size) size rfl (by simpa using hvl) (by simp; omega)]
           simp only []
           rw [hsp]
           obtain ⟨M2, xs, b1, b2, b3, b4, b5, b6⟩ := Bi5 h rest ps rs (i + 1) (pre ++ (a.eval x).cells.toList) (tail.drop size) M1 a2 (fun y ya hy => (hrep y ya hy).mono a1 (NLe.refl s.st.length g) hs.dom) h3 h5
             (by rw [List.length_append, hp, hvl, Nat.add_mul, Nat.one_mul]) (by simp; omega)
           refine ⟨M2, (a.eval x).cells.toList ++ xs, a1.trans b1, b2, by rw [b3, List.append_assoc], by rw [List.length_append, hvl, b4, List.length_cons, Nat.add_mul, Nat.one_mul, Nat.add_comm], ?_, by simp [b6]⟩
           have hone : PX M2 size (a.eval x).cells.toList [row] := fun j r hr => by
             cases j with
             | zero =>
               simp at hr
               subst hr
               refine ⟨hrl, fun q d hq => ?_⟩
               obtain ⟨u, c1, c2⟩ := a4 q d hq
               exact ⟨u, by simpa using c1, c2.mono b1⟩
             | succ j => simp at hr
           have := PX.append (rows := [row]) (by simp [hvl]) hone b5
           simpa using this
theorem Bu8 (h : XRel P N B w0 M g s a w) {t e : TypeId} {i : TypeInfo} {z : Value} {len : Nat} {parts : Array (Nat × Operand)} {xas : List XA} (ht : P.underlying t = some (.slice e)) (hi : P.info? e = some i) (hz : i.zero = some z) (hzs : z.cells.size = i.size) (h0 : 0 < i.size)
   (hx : ON N 0 parts.toList = some xas) (hlen : xas.length = len) (h24 : len * i.size ≤ 2 ^ 24) (ho : o.op = .buildSlice t len parts) (hk : xop P (.buildSlice i.size xas) K s) : HU P B w0 M g s K o a w := by
 simp only [xop] at hk
 split at hk
 case h_2 => exact hk.elim
 rename_i rows hro
 have hpl : parts.toList.length = len := by
   rw [← hlen]
   have : ∀ (l : List (Nat × Operand)) (k : Nat) (q : List XA), ON N k l = some q → l.length = q.length := by
     intro l
     induction l with
     | nil => intro k q hq; simp [ON] at hq; subst hq; rfl
     | cons p r ih =>
       intro k q hq
       obtain ⟨pi, px⟩ := p
       simp only [ON] at hq
       split at hq
       · cases e1 : cA N px with
         | none => simp [e1] at hq
         | some xa => cases e2 : ON N (k + 1) r with
           | none => simp [e1, e2] at hq
           | some ps => simp [e1, e2] at hq; subst hq; simp [ih _ _ e2]
       · cases hq
   exact this _ _ _ hx
 let start : Array Value := (Array.range (len * i.size)).map (fun q => (if len * i.size = 0 then (#[] : Array Value) else z.cells)[q % (if len * i.size = 0 then (#[] : Array Value) else z.cells).size]!)
 have hstart : start.toList.length = parts.toList.length * i.size := by simp [start]; rw [← hpl]; simp
 obtain ⟨M', xs, a1, a2, a3, a4, a5, a6⟩ := Bi5 h parts.toList xas rows 0 [] start.toList M h.st (fun x xa e => BT h e) hx hro (by simp) hstart
 simp only [List.nil_append, Array.toArray_toList] at a3
 have hrl : rows.length = len := by rw [a6, hpl]
 have hrun : (execOp a.eval o).run P w = .ok (.value (.slice (some ⟨w.heap.size, 0, none⟩) len len)) (w.alloc (.cells xs.toArray e)) := by
   have a3' : Instr.fill (fun i_1 => some (i_1 * i.size, i.size)) ((Array.range (len * i.size)).map (fun q => (if len * i.size = 0 then (#[] : Array Value) else z.cells)[q % (if len * i.size = 0 then (#[] : Array Value) else z.cells).size]!)) (parts.toList.map fun (i, x) => (i, a.eval x)) = some xs.toArray := a3
   simp only [execOp, ho, Instr.buildSlice, Sem.run_bind, run_underlying ht, Ed hi, Result.andThen_ok, Array.toList_map]
   rw [if_neg (by omega)]
   by_cases hz0 : len * i.size = 0
   · simp only [hz0, if_true] at a3'
     simp only [hz0, if_true, Sem.run_bind, Sem.run_pure, Result.andThen_ok]
     rw [a3']
     simp [newRow]
   · simp only [hz0, if_false] at a3'
     simp only [hz0, if_false, Sem.run_bind, Sem.run_pure, Result.andThen_ok, AD2 hi hz]
     rw [a3']
     simp [newRow]
 obtain ⟨s1, l1⟩ := a2.push_mem xs.toArray e (rows.length * i.size)
 refine AU hrun ⟨_, s.st, _, g, a1.trans l1, NLe.refl _ g, Nat.le_refl _, s1, ?_, hk⟩
 rw [← hrl]
 refine .ex _ rows (.sl ⟨w.heap.size, 0, none⟩ rows.length i.size rows (fun p q => (xs[p * i.size + q]?).getD undef) (Nat.le_refl _) (fun p row hr => (a5 p row hr).1) (fun p row j d hr hj => ?_) (fun p row j d hr hj => ?_))
 · obtain ⟨b1, b2⟩ := a5 p row hr
   obtain ⟨u, c1, c2⟩ := b2 j d hj
   have hp : p < rows.length := (List.getElem?_eq_some_iff.1 hr).1
   have hjs : j < i.size := by have := (List.getElem?_eq_some_iff.1 hj).1; omega
   have hlt : p * i.size + j < rows.length * i.size := by
     have : (p + 1) * i.size ≤ rows.length * i.size := Nat.mul_le_mul_right _ hp
     rw [Nat.add_mul] at this
     omega
   rw [WP]
   show (if w.heap.size = w.heap.size ∧ p * i.size + j < rows.length * i.size then _ else _) = _
   rw [if_pos ⟨rfl, hlt⟩, cell_of_row _ w.heap.size _ xs.toArray e (0, 0) (Bd7 w _)]
   simp [c1]
 · obtain ⟨b1, b2⟩ := a5 p row hr
   obtain ⟨u, c1, c2⟩ := b2 j d hj
   rw [c1]
   exact (c2.mono l1)
end
end Go.Ax
