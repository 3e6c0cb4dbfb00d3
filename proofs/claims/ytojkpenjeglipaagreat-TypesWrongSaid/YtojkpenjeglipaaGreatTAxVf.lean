import Derived.Test.YtojkpenjeglipaaGreatTAxVe
set_option linter.unusedVariables false
namespace Go.Ax
open Go.RowKit
theorem BP3 {v : Value} {p : PV} (h : cPV v = some p) (M : Mem) (g : Nam) : RepV M g v p := by
 unfold cPV at h
 split at h <;> cases h
 · exact .d (.bool _)
 · exact .d (.int _ _)
 · exact .d (.str _)
 · exact .exnil
 · exact .nilp
 · exact .nilm
 · exact .nilf
theorem Ce0 {v : Value} {p : PV} (h : cPV v = some p) : p.one = true := by
 unfold cPV at h
 split at h <;> cases h <;> rfl
theorem Am8 : ∀ {vs : List Value} {ps : List PV}, Bq0 vs = some ps → ∀ (M : Mem) (g : Nam), CK M g vs ps ∧ ∀ p, p ∈ ps → p.one = true
 | [], ps, h, M, g => by simp [Bq0] at h; subst h; exact ⟨CK.nil M g, fun p hp => by cases hp⟩
 | v :: vs, ps, h, M, g => by
   simp only [Bq0] at h
   cases h1 : cPV v with
   | none => simp [h1] at h
   | some p => cases h2 : Bq0 vs with
     | none => simp [h1, h2] at h
     | some qs =>
       simp [h1, h2] at h
       subst h
       obtain ⟨a, b⟩ := Am8 h2 M g
       refine ⟨CK.cons (BP3 h1 M g) a, fun q hq => ?_⟩
       cases hq with
       | head => exact Ce0 h1
       | tail _ hq => exact b q hq
theorem BT {P : Program} {N B : Nat} {w0 : World} {M : Mem} {g : Nam} {s : XS} {a : Act} {w : World} (h : XRel P N B w0 M g s a w) {x : Operand} {xa : XA} (hx : cA N x = some xa) : RepV M g (a.eval x) (ev s xa) := by
 cases x with
 | tmp t =>
   simp only [cA] at hx
   split at hx <;> cases hx
   exact h.slots t
 | const v =>
   simp only [cA] at hx
   cases e : cPV v with
   | none => simp [e] at hx
   | some p => simp [e] at hx; subst hx; exact BP3 e M g
 | func f =>
   simp only [cA] at hx
   cases hx
   exact .fn f [] [] [] [] rfl rfl (fun i v p h => by simp at h) (fun i v p h => by simp at h)
 | global g => simp [cA] at hx
theorem Av1 {P : Program} {N B : Nat} {w0 : World} {M : Mem} {g : Nam} {s : XS} {a : Act} {w : World} (h : XRel P N B w0 M g s a w) : ∀ {xs : List Operand} {as : List XA}, cAs N xs = some as → CK M g (xs.map a.eval) (as.map (ev s))
 | [], as, hx => by simp [cAs] at hx; subst hx; exact CK.nil M g
 | x :: xs, as, hx => by
   simp only [cAs] at hx
   cases h1 : cA N x with
   | none => simp [h1] at hx
   | some p => cases h2 : cAs N xs with
     | none => simp [h1, h2] at hx
     | some qs =>
       simp [h1, h2] at hx
       subst hx
       exact CK.cons (BT h h1) (Av1 h h2)
theorem Ed {P : Program} {t : TypeId} {i : TypeInfo} (h : P.info? t = some i) (w : World) : (sizeOf t).run P w = .ok i.size w := by simp [sizeOf, typeInfo, h]
theorem AD2 {P : Program} {t : TypeId} {i : TypeInfo} {z : Value} (h : P.info? t = some i) (hz : i.zero = some z) (w : World) : (zeroValue t).run P w = .ok z w := by simp [zeroValue, typeInfo, h, hz]
theorem Am3 {P : Program} {t : TypeId} {b : Bool} (h : Oj P t = some b) (w : World) : (isAgg t).run P w = .ok b w := by
 unfold Oj at h
 cases e : P.underlying t with
 | none => simp [e] at h
 | some d =>
   simp only [isAgg, Sem.run_bind, run_underlying e, Result.andThen_ok]
   cases d <;> simp [e] at h <;> subst h <;> rfl
structure After (P : Program) (B : Nat) (w0 : World) (M : Mem) (g : Nam) (s : XS) (K : PV → List Content → Prop) (v : Value) (w' : World) : Prop where
 mk :: (out : ∃ p st' M' g', MLe M M' ∧ NLe s.st.length g g' ∧ s.st.length ≤ st'.length ∧ SRel P B w0 M' g' st' w' ∧ RepV M' g' v p ∧ K p st')
theorem After.plain {P : Program} {N B : Nat} {w0 : World} {M : Mem} {g : Nam} {s : XS} {a : Act} {w : World} (h : XRel P N B w0 M g s a w) {K : PV → List Content → Prop} {v : Value} {p : PV} (hv : RepV M g v p) (hk : K p s.st) : After P B w0 M g s K v w :=
 ⟨p, s.st, M, g, MLe.refl M, NLe.refl _ g, Nat.le_refl _, h.st, hv, hk⟩
def HU (P : Program) (B : Nat) (w0 : World) (M : Mem) (g : Nam) (s : XS) (K : PV → List Content → Prop) (o : Oper) (a : Act) (w : World) : Prop :=
 ∃ nx v w', (execOp a.eval o).run P w = .ok nx w' ∧ (nx = .value v ∨ (nx = .skip ∧ v = undef)) ∧ After P B w0 M g s K v w'
theorem Bd2 {ps : List PV} (h : ps.all PV.one = true) : ∀ p, p ∈ ps → p.one = true := List.all_eq_true.1 h
theorem Bx1 {p : PV} (h : p.cells.all PV.one = true) : p.one = true ∨ ∃ cs, p = .agg cs := by
 cases p <;> first | (left; rfl) | (right; exact ⟨_, rfl⟩) | (simp [PV.cells, PV.one] at h)
theorem BJ9 {P : Program} {B : Nat} {w0 : World} {M : Mem} {g : Nam} {st : List Content} {w : World} (h : SRel P B w0 M g st w) {v : Value} {x off : Nat} (hv : RepV M g v (.ptr x off)) {cells : List PV} (hx : st[x]? = some (.box cells)) :
   ∃ b vs T, v = .pointer (some ⟨b, off, none⟩) ∧ g x 0 = some (.pointer (some ⟨b, 0, none⟩), true) ∧ w.heap[b]? = some (.cells vs.toArray T (0, 0)) ∧ CK M g vs cells ∧ (∀ p, p ∈ cells → p.one = true) := by
 cases hv with
 | ptr hg =>
   rename_i b
   obtain ⟨b', vs, T, h1, h2, h3, h4, h5, h6⟩ := h.cont x _ hx
   rw [hg] at h1
   simp at h1
   subst h1
   exact ⟨b, vs, T, rfl, hg, h3, h4, h5⟩
theorem Om {P : Program} {t : TypeId} {i : TypeInfo} (hi : P.info? t = some i) (ha : Oj P t = some true) (w : World) (ad : Addr) (cs : List Value) (hl : cs.length = i.size) (h : ∀ j v, cs[j]? = some v → w.cell? (ad.add j) = some v) :
   (loadVar t ad).run P w = .ok (.agg cs.toArray) w := by
 have hr := run_loadCells_list (P := P) w ad cs h
 rw [hl] at hr
 simp [loadVar, Am3 ha, Ed hi, hr]
theorem OY {P : Program} {t : TypeId} (ha : Oj P t = some false) (w : World) (ad : Addr) (v : Value) (h : w.cell? ad = some v) : (loadVar t ad).run P w = .ok v w := by
 simp [loadVar, Am3 ha, h]
theorem Ae3 {w : World} {b : Nat} {vs : List Value} {T : TypeId} (h : w.heap[b]? = some (.cells vs.toArray T (0, 0))) (off j : Nat) : w.cell? ((⟨b, off, none⟩ : Addr).add j) = vs[off + j]? := by
 have : (⟨b, off, none⟩ : Addr).add j = ⟨b, off + j, none⟩ := by unfold Addr.add; split <;> simp_all
 rw [this, cell_of_row w b (off + j) _ T (0, 0) h]
 simp
theorem WJ (a : Addr) : a.add 0 = a := by simp [Addr.add]
theorem Au5 (a : Addr) (i j : Nat) : (a.add i).add j = a.add (i + j) := by
 unfold Addr.add
 by_cases hi : i = 0
 · subst hi; simp
 · by_cases hj : j = 0
   · subst hj; simp [hi]
   · simp [hi, hj, Nat.add_assoc]
section
variable {P : Program} {N B : Nat} {w0 : World} {M : Mem} {g : Nam} {s : XS} {a : Act} {w : World} {K : PV → List Content → Prop} {o : Oper}
theorem AU {v : Value} {w' : World} (hr : (execOp a.eval o).run P w = .ok (.value v) w') (h : After P B w0 M g s K v w') : HU P B w0 M g s K o a w := ⟨_, v, w', hr, .inl rfl, h⟩
theorem BX6 (h : XRel P N B w0 M g s a w) {x : Operand} {xa : XA} (hx : cA N x = some xa) (ho : o.op = .move x ∨ o.op = .assign x) (hk : xop P (.move xa) K s) : HU P B w0 M g s K o a w := by
 refine AU (v := a.eval x) (w' := w) ?_ (.plain h (BT h hx) hk)
 rcases ho with ho | ho <;> simp [execOp, ho]
theorem Cf7 (h : XRel P N B w0 M g s a w) {c x y : Operand} {xc xa xb : XA} (hc : cA N c = some xc) (hx : cA N x = some xa) (hy : cA N y = some xb) (ho : o.op = .pick c x y) (hk : xop P (.pick xc xa xb) K s) : HU P B w0 M g s K o a w := by
 have rc := BT h hc
 have rx := BT h hx
 have ry := BT h hy
 simp only [xop] at hk
 generalize ev s xc = pc at rc hk
 generalize ev s xa = px at rx hk
 generalize ev s xb = py at ry hk
 have run : ∀ t, a.eval c = .bool t → (execOp a.eval o).run P w = .ok (.value (if t then a.eval x else a.eval y)) w := fun t ht => by simp [execOp, ho, ht, asBool]
 have isb : ∀ t, pc = .d (.bool t) → a.eval c = .bool t := fun t e => by
   subst e
   generalize a.eval c = v at rc
   cases rc with | d hd => cases hd; rfl
 split at hk
 · rename_i t b1 b2
   refine AU (run t (isb t rfl)) ?_
   cases t
   · refine .plain h (p := .d (.bool b2)) ?_ hk
     exact ry
   · refine .plain h (p := .d (.bool b1)) ?_ hk
     exact rx
 · rename_i t _
   refine AU (run t (isb t rfl)) ?_
   cases t
   · exact .plain h ry (hk.2 rfl)
   · exact .plain h rx (hk.1 rfl)
 · exact hk.elim
theorem Cj0 (h : XRel P N B w0 M g s a w) {t : TypeId} {x : Operand} {xa : XA} (hx : cA N x = some xa) (ho : o.op = .box t x) (hk : xop P (.box xa) K s) : HU P B w0 M g s K o a w := by
 have rx := BT h hx
 simp only [xop] at hk
 obtain ⟨h1, hk⟩ := hk
 have hcells := rx.toCells (Bx1 h1)
 refine AU (v := .pointer (some ⟨w.heap.size, 0, none⟩)) (w' := w.alloc (.cells (a.eval x).cells t)) (by simp [execOp, ho, Instr.box, newVar, newRow]) ?_
 have hp := h.st.push_box (a.eval x).cells.toList (ev s xa).cells t hcells (Bd2 h1)
 rw [Array.toArray_toList] at hp
 exact ⟨_, _, M, _, MLe.refl M, NLe.put g _ _ _, by simp, hp, .ptr (by simp [Nam.put]), hk⟩
theorem Cc7 (h : XRel P N B w0 M g s a w) {t : TypeId} {i : TypeInfo} {z : Value} {zs : List PV} (hi : P.info? t = some i) (hz : i.zero = some z) (hc : Al4 z = some zs) (ho : o.op = .alloc t) (hk : xop P (.alloc zs) K s) : HU P B w0 M g s K o a w := by
 simp only [xop] at hk
 obtain ⟨r1, r2⟩ := Am8 hc M g
 refine AU (v := .pointer (some ⟨w.heap.size, 0, none⟩)) (w' := w.alloc (.cells z.cells t)) (by simp [execOp, ho, Instr.alloc, newVar, newRow, AD2 hi hz]) ?_
 have hp := h.st.push_box z.cells.toList zs t r1 r2
 rw [Array.toArray_toList] at hp
 exact ⟨_, _, M, _, MLe.refl M, NLe.put g _ _ _, by simp, hp, .ptr (by simp [Nam.put]), hk⟩
theorem Cg2 (h : XRel P N B w0 M g s a w) {t : TypeId} {i : TypeInfo} {b : Bool} {x : Operand} {xa : XA} (hi : P.info? t = some i) (hb : Oj P t = some b) (hx : cA N x = some xa) (ho : o.op = .load t x) (hk : xop P (.load b i.size xa) K s) : HU P B w0 M g s K o a w := by
 have rx := BT h hx
 simp only [xop] at hk
 generalize ev s xa = px at rx hk
 generalize hv : a.eval x = v at rx
 split at hk
 · rename_i nb off
   split at hk
   · rename_i cells hst
     obtain ⟨blk, vs, T, rfl, hg, hh, hr, h1⟩ := BJ9 h.st rx hst
     cases b with
     | true =>
       simp only [if_true] at hk
       have hlen := hr.1
       have hl : ((vs.drop off).take i.size).length = i.size := by simp; omega
       have hrun := Om hi hb w ⟨blk, off, none⟩ ((vs.drop off).take i.size) hl (fun j u hj => by
         rw [Ae3 hh, ← hj, List.getElem?_take, List.getElem?_drop]
         split
         · rfl
         · rename_i hlt; rw [List.getElem?_take, if_neg hlt] at hj; cases hj)
       refine AU (v := .agg ((vs.drop off).take i.size).toArray) (w' := w) (by simp [execOp, ho, hv, Instr.loadAt, Instr.sureAddr, hrun]) (.plain h ?_ hk.2)
       have := (hr.drop off).take i.size
       exact .agg _ _ this.1 this.2
     | false =>
       simp only [Bool.false_eq_true, if_false] at hk
       cases hc : cells[off]? with
       | none => simp [hc] at hk
       | some p =>
         simp only [hc] at hk
         obtain ⟨u, hu, hru⟩ := hr.get hc
         have hcell : w.cell? ⟨blk, off, none⟩ = some u := by have := Ae3 hh off 0; rw [WJ, Nat.add_zero] at this; rw [this, hu]
         exact AU (v := u) (w' := w) (by simp [execOp, ho, hv, Instr.loadAt, Instr.sureAddr, OY hb w _ u hcell]) (.plain h hru hk)
   · exact hk.elim
 · rename_i cells
   cases rx with
   | dp ad _ val hm hr =>
     cases b with
     | true =>
       simp only [if_true] at hk
       have hl : ((List.range i.size).map val).length = i.size := by simp
       have hrun := Om hi hb w ad ((List.range i.size).map val) hl (fun j u hj => by
         have hjl : j < i.size := by
           by_cases hlt : j < i.size
           · exact hlt
           · rw [List.getElem?_eq_none (by simp; omega)] at hj; cases hj
         rw [List.getElem?_eq_getElem (by simpa using hjl)] at hj
         simp at hj
         rw [← hj]
         exact h.st.mem _ _ (hm j cells[j] (List.getElem?_eq_getElem (by omega))))
       refine AU (v := .agg ((List.range i.size).map val).toArray) (w' := w) (by simp [execOp, ho, hv, Instr.loadAt, Instr.sureAddr, hrun]) (.plain h ?_ hk.2)
       refine .agg _ _ (by simp; omega) (fun j u p e1 e2 => ?_)
       have hjl : j < i.size := by
         by_cases hlt : j < i.size
         · exact hlt
         · rw [List.getElem?_eq_none (by simp; omega)] at e1; cases e1
       rw [List.getElem?_eq_getElem (by simpa using hjl)] at e1
       simp at e1
       rw [List.getElem?_map, List.getElem?_take, if_pos hjl, List.getElem?_eq_getElem (by omega)] at e2
       simp at e2
       subst e1
       subst e2
       exact .d (hr j _ (List.getElem?_eq_getElem (by omega)))
     | false =>
       simp only [Bool.false_eq_true, if_false] at hk
       cases hc : cells[0]? with
       | none => simp [hc] at hk
       | some d =>
         simp only [hc] at hk
         have hm0 := h.st.mem _ _ (hm 0 d hc)
         rw [WJ] at hm0
         exact AU (v := val 0) (w' := w) (by simp [execOp, ho, hv, Instr.loadAt, Instr.sureAddr, OY hb w _ _ hm0]) (.plain h (.d (hr 0 d hc)) hk)
 · exact hk.elim
theorem Cc4 (h : XRel P N B w0 M g s a w) {t : TypeId} {i : TypeInfo} {x y : Operand} {xa ya : XA} (hi : P.info? t = some i) (hx : cA N x = some xa) (hy : cA N y = some ya) (ho : o.op = .store t x y) (hk : xop P (.store i.size xa ya) K s) : HU P B w0 M g s K o a w := by
 have rx := BT h hx
 have ry := BT h hy
 simp only [xop] at hk
 generalize ev s xa = px at rx hk
 generalize hv : a.eval x = v at rx
 split at hk
 · rename_i nb off
   split at hk
   · rename_i cells hst
     obtain ⟨hsz, hfit, hone, hk⟩ := hk
     obtain ⟨blk, vs, T, rfl, hg, hh, hr, h1⟩ := BJ9 h.st rx hst
     have hcy := ry.toCells (Bx1 hone)
     have hylen : (a.eval y).cells.size = i.size := by have := hcy.1; simpa [hsz] using this
     have hrun := run_storeCells_at P blk off T (a.eval y).cells.toList 0 vs.toArray w hh (by have := hr.1; simp; omega) (fun u hu => by
       obtain ⟨k, hkl, rfl⟩ := List.getElem_of_mem hu
       have hkl' : k < (ev s ya).cells.length := by have := hcy.1; omega
       exact (hcy.2 k _ _ (List.getElem?_eq_getElem hkl) (List.getElem?_eq_getElem hkl')).one (Bd2 hone _ (List.getElem_mem hkl')))
     have hone' : ∀ p, p ∈ splice cells off (ev s ya).cells → p.one = true := fun p hp => by
       simp only [splice, List.mem_append] at hp
       rcases hp with (hp | hp) | hp
       · exact h1 p (List.mem_of_mem_take hp)
       · exact Bd2 hone p hp
       · exact h1 p (List.mem_of_mem_drop hp)
     have hw := h.st.set_box hst hg (splice vs off (a.eval y).cells.toList) (hr.splice hcy off) hone'
     · refine ⟨.skip, undef, _, ?_, .inr ⟨rfl, rfl⟩, ⟨_, _, M, g, MLe.refl M, NLe.refl _ g, by simp, hw, ?_, hk⟩⟩
       · simp [execOp, ho, hv, Instr.storeAt, Instr.sureAddr, storeVar, Ed hi, hylen, hrun, splice]
       · exact .tup [] [] rfl (fun i v p h => by simp at h)
   · exact hk.elim
 · exact hk.elim
end
theorem SRel.freeze_ptr {P : Program} {B : Nat} {w0 : World} {M : Mem} {g : Nam} {st : List Content} {w : World} (h : SRel P B w0 M g st w) {x : Nat} {ds : List D} (hx : st[x]? = some (.box (ds.map .d))) :
   ∃ M', MLe M M' ∧ SRel P B w0 M' g (st.set x .dead) w ∧ ∀ v, RepV M g v (.ptr x 0) → RepV M' g v (.dp ds) := by
 obtain ⟨b, vs, T, h1, h2, h3, h4, h5, h6⟩ := h.cont x _ hx
 have hbl : Bl g x (.box (ds.map .d)) = some b := by simp [Bl, h1]
 have hcell : ∀ j, w.cell? ⟨b, j, none⟩ = vs[j]? := fun j => by
   have := Ae3 h3 0 j
   rw [WP, Nat.zero_add] at this
   exact this
 let M' : Mem := fun a => if a.block = b ∧ a.spot = none then w.cell? a else M a
 have hle : MLe M M' := fun a u e' => by
   show (if a.block = b ∧ a.spot = none then w.cell? a else M a) = some u
   split
   · exact h.mem a u e'
   · exact e'
 have hout : ∀ a, a.block ≠ b → M' a = M a := fun a ha => by
   show (if a.block = b ∧ a.spot = none then w.cell? a else M a) = _
   rw [if_neg (fun hh => ha hh.1)]
 refine ⟨M', hle, ⟨h.below, h.hB, fun a u e' => ?_, fun y c ey => ?_, fun y ver v hv => by rw [List.length_set]; exact h.dom y ver v hv, fun y z c d b' hne hy hz hb => ?_⟩, fun v hv => ?_⟩
 · have e' : (if a.block = b ∧ a.spot = none then w.cell? a else M a) = some u := e'
   split at e'
   · exact e'
   · exact h.mem a u e'
 · by_cases hxy : x = y
   · subst hxy
     rw [List.getElem?_set] at ey
     simp only [if_true] at ey
     split at ey
     · cases ey; trivial
     · cases ey
   · rw [List.getElem?_set_ne hxy] at ey
     refine (h.cont y c ey).keep hle (NLe.refl st.length _) h.dom (fun _ => rfl) (fun _ _ => rfl) (fun b' hb' a ha => hout a (fun hab => ?_))
     exact h.sep y x c _ b' (fun e => hxy e.symm) ey hx hb' (by rw [hbl, ← hab, ha])
 · by_cases hxy : x = y
   · subst hxy
     rw [List.getElem?_set] at hy
     simp only [if_true] at hy
     split at hy
     · cases hy; simp [Bl] at hb
     · cases hy
   · rw [List.getElem?_set_ne hxy] at hy
     by_cases hxz : x = z
     · subst hxz
       rw [List.getElem?_set] at hz
       simp only [if_true] at hz
       split at hz
       · cases hz; simp [Bl]
       · cases hz
     · rw [List.getElem?_set_ne hxz] at hz
       exact h.sep y z c d b' hne hy hz hb
 · cases hv with
   | ptr hb =>
     rw [h1] at hb
     cases hb
     refine .dp ⟨b, 0, none⟩ ds (fun j => (vs[j]?).getD undef) (fun j d hj => ?_) (fun j d hj => ?_)
     · obtain ⟨v, hv, hr⟩ := h4.get (i := j) (p := .d d) (by rw [List.getElem?_map, hj]; rfl)
       rw [WP]
       show (if b = b ∧ (none : Option Nat) = none then w.cell? ⟨b, j, none⟩ else _) = _
       rw [if_pos ⟨rfl, rfl⟩, hcell, hv]; rfl
     · obtain ⟨v, hv, hr⟩ := h4.get (i := j) (p := .d d) (by rw [List.getElem?_map, hj]; rfl)
       rw [hv]
       cases hr with
       | d hd => exact hd.mono hle
end Go.Ax
