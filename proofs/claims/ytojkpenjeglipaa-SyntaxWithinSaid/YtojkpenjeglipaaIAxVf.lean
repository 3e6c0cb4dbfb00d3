import Derived.Test.YtojkpenjeglipaaIAxVe
set_option linter.unusedVariables false
set_option linter.unusedSimpArgs false
namespace Go.Ax
open Go.RowKit
theorem Ay1 {v : Value} {p : PV} (h : cPV v = some p) (M : Mem) (g : Nam) : RepV M g v p := by
 unfold cPV at h
 split at h <;> cases h
 · exact .d (.bool _)
 · exact .d (.int _ _)
 · exact .d (.str _)
 · exact .exnil
 · exact .nilp
 · exact .nilm
 · exact .nilf
theorem AK9 {v : Value} {p : PV} (h : cPV v = some p) : p.one = true := by
 unfold cPV at h
 split at h <;> cases h <;> rfl
theorem Rr : ∀ {vs : List Value} {ps : List PV}, Af1 vs = some ps → ∀ (M : Mem) (g : Nam), C2 M g vs ps ∧ ∀ p, p ∈ ps → p.one = true
 | [], ps, h, M, g => by simp [Af1] at h; subst h; exact ⟨C2.nil M g, fun p hp => by cases hp⟩
 | v :: vs, ps, h, M, g => by
   simp only [Af1] at h
   cases h1 : cPV v with
   | none => simp [h1] at h
   | some p => cases h2 : Af1 vs with
     | none => simp [h1, h2] at h
     | some qs =>
       simp [h1, h2] at h
       subst h
       obtain ⟨a, b⟩ := Rr h2 M g
       refine ⟨C2.cons (Ay1 h1 M g) a, fun q hq => ?_⟩
       cases hq with
       | head => exact AK9 h1
       | tail _ hq => exact b q hq
theorem BY {P : Program} {N B : Nat} {w0 : World} {M : Mem} {g : Nam} {s : XS} {a : Act} {w : World} (h : XRel P N B w0 M g s a w) {x : Operand} {xa : XA} (hx : cA N x = some xa) : RepV M g (a.eval x) (ev s xa) := by
 cases x with
 | tmp t =>
   simp only [cA] at hx
   split at hx <;> cases hx
   exact h.slots t
 | const v =>
   simp only [cA] at hx
   cases e : cPV v with
   | none => simp [e] at hx
   | some p => simp [e] at hx; subst hx; exact Ay1 e M g
 | func f =>
   simp only [cA] at hx
   cases hx
   exact .fn f [] [] [] [] rfl rfl (fun i v p h => by simp at h) (fun i v p h => by simp at h)
 | global g => simp [cA] at hx
theorem Tf {P : Program} {N B : Nat} {w0 : World} {M : Mem} {g : Nam} {s : XS} {a : Act} {w : World} (h : XRel P N B w0 M g s a w) : ∀ {xs : List Operand} {as : List XA}, cAs N xs = some as → C2 M g (xs.map a.eval) (as.map (ev s))
 | [], as, hx => by simp [cAs] at hx; subst hx; exact C2.nil M g
 | x :: xs, as, hx => by
   simp only [cAs] at hx
   cases h1 : cA N x with
   | none => simp [h1] at hx
   | some p => cases h2 : cAs N xs with
     | none => simp [h1, h2] at hx
     | some qs =>
       simp [h1, h2] at hx
       subst hx
       exact C2.cons (BY h h1) (Tf h h2)
theorem Ec {P : Program} {t : TypeId} {i : TypeInfo} (h : P.info? t = some i) (w : World) : (sizeOf t).run P w = .ok i.size w := by simp [sizeOf, typeInfo, h]
theorem Vh {P : Program} {t : TypeId} {i : TypeInfo} {z : Value} (h : P.info? t = some i) (hz : i.zero = some z) (w : World) : (zeroValue t).run P w = .ok z w := by simp [zeroValue, typeInfo, h, hz]
theorem Rq {P : Program} {t : TypeId} {b : Bool} (h : KC P t = some b) (w : World) : (isAgg t).run P w = .ok b w := by
 unfold KC at h
 cases e : P.underlying t with
 | none => simp [e] at h
 | some d =>
   simp only [isAgg, Sem.run_bind, run_underlying e, Result.andThen_ok]
   cases d <;> simp [e] at h <;> subst h <;> rfl
structure After (P : Program) (B : Nat) (w0 : World) (M : Mem) (g : Nam) (s : XS) (K : PV → List Content → Prop) (v : Value) (w' : World) : Prop where
 mk :: (out : ∃ p st' M' g', MLe M M' ∧ NLe s.st.length g g' ∧ s.st.length ≤ st'.length ∧ SRel P B w0 M' g' st' w' ∧ RepV M' g' v p ∧ K p st')
theorem After.plain {P : Program} {N B : Nat} {w0 : World} {M : Mem} {g : Nam} {s : XS} {a : Act} {w : World} (h : XRel P N B w0 M g s a w) {K : PV → List Content → Prop} {v : Value} {p : PV} (hv : RepV M g v p) (hk : K p s.st) : After P B w0 M g s K v w :=
 ⟨p, s.st, M, g, MLe.refl M, NLe.refl _ g, Nat.le_refl _, h.st, hv, hk⟩
def Hp (P : Program) (B : Nat) (w0 : World) (M : Mem) (g : Nam) (s : XS) (K : PV → List Content → Prop) (o : Oper) (a : Act) (w : World) : Prop :=
 ∃ nx v w', (execOp a.eval o).run P w = .ok nx w' ∧ (nx = .value v ∨ (nx = .skip ∧ v = undef)) ∧ After P B w0 M g s K v w'
theorem Xq {ps : List PV} (h : ps.all PV.one = true) : ∀ p, p ∈ ps → p.one = true := List.all_eq_true.1 h
theorem Aj3 {p : PV} (h : p.cells.all PV.one = true) : p.one = true ∨ ∃ cs, p = .agg cs := by
 cases p <;> first | (left; rfl) | (right; exact ⟨_, rfl⟩) | (simp [PV.cells, PV.one] at h)
theorem Ag5 {P : Program} {B : Nat} {w0 : World} {M : Mem} {g : Nam} {st : List Content} {w : World} (h : SRel P B w0 M g st w) {v : Value} {x off : Nat} (hv : RepV M g v (.ptr x off)) {cells : List PV} (hx : st[x]? = some (.box cells)) :
   ∃ b vs T, v = .pointer (some ⟨b, off, none⟩) ∧ g x 0 = some (.pointer (some ⟨b, 0, none⟩), true) ∧ w.heap[b]? = some (.cells vs.toArray T (0, 0)) ∧ C2 M g vs cells ∧ (∀ p, p ∈ cells → p.one = true) := by
 cases hv with
 | ptr hg =>
   rename_i b
   obtain ⟨b', vs, T, h1, h2, h3, h4, h5, h6⟩ := h.cont x _ hx
   rw [hg] at h1
   simp at h1
   subst h1
   exact ⟨b, vs, T, rfl, hg, h3, h4, h5⟩
theorem Ky {P : Program} {t : TypeId} {i : TypeInfo} (hi : P.info? t = some i) (ha : KC P t = some true) (w : World) (ad : Addr) (cs : List Value) (hl : cs.length = i.size) (h : ∀ j v, cs[j]? = some v → w.cell? (ad.add j) = some v) :
   (loadVar t ad).run P w = .ok (.agg cs.toArray) w := by
 have hr := run_loadCells_list (P := P) w ad cs h
 rw [hl] at hr
 simp [loadVar, Rq ha, Ec hi, hr]
theorem Ks {P : Program} {t : TypeId} (ha : KC P t = some false) (w : World) (ad : Addr) (v : Value) (h : w.cell? ad = some v) : (loadVar t ad).run P w = .ok v w := by
 simp [loadVar, Rq ha, h]
theorem Qb {w : World} {b : Nat} {vs : List Value} {T : TypeId} (h : w.heap[b]? = some (.cells vs.toArray T (0, 0))) (off j : Nat) : w.cell? ((⟨b, off, none⟩ : Addr).add j) = vs[off + j]? := by
 have : (⟨b, off, none⟩ : Addr).add j = ⟨b, off + j, none⟩ := by unfold Addr.add; split <;> simp_all
 rw [this, cell_of_row w b (off + j) _ T (0, 0) h]
 simp
theorem K6 (a : Addr) : a.add 0 = a := by simp [Addr.add]
theorem UN (a : Addr) (i j : Nat) : (a.add i).add j = a.add (i + j) := by
 unfold Addr.add
 by_cases hi : i = 0
 · subst hi; simp
 · by_cases hj : j = 0
   · subst hj; simp [hi]
   · simp [hi, hj, Nat.add_assoc]
section
variable {P : Program} {N B : Nat} {w0 : World} {M : Mem} {g : Nam} {s : XS} {a : Act} {w : World} {K : PV → List Content → Prop} {o : Oper}
theorem A1 {v : Value} {w' : World} (hr : (execOp a.eval o).run P w = .ok (.value v) w') (h : After P B w0 M g s K v w') : Hp P B w0 M g s K o a w := ⟨_, v, w', hr, .inl rfl, h⟩
theorem AH4 (h : XRel P N B w0 M g s a w) {x : Operand} {xa : XA} (hx : cA N x = some xa) (ho : o.op = .move x ∨ o.op = .assign x) (hk : xop P (.move xa) K s) : Hp P B w0 M g s K o a w := by
 refine A1 (v := a.eval x) (w' := w) ?_ (.plain h (BY h hx) hk)
 rcases ho with ho | ho <;> simp [execOp, ho]
theorem AQ0 (h : XRel P N B w0 M g s a w) {c x y : Operand} {xc xa xb : XA} (hc : cA N c = some xc) (hx : cA N x = some xa) (hy : cA N y = some xb) (ho : o.op = .pick c x y) (hk : xop P (.pick xc xa xb) K s) : Hp P B w0 M g s K o a w := by
 have rc := BY h hc
 have rx := BY h hx
 have ry := BY h hy
 simp only [xop] at hk
 generalize ev s xc = pc at rc hk
 generalize ev s xa = px at rx hk
 generalize ev s xb = py at ry hk
 have run : ∀ t, a.eval c = .bool t → (execOp a.eval o).run P w = .ok (.value (if t then a.eval x else a.eval y)) w := fun t ht => by simp [execOp, ho, ht, asBool]
 have isb : ∀ t, pc = .d (.bool t) → a.eval c = .bool t := fun t e => by
   subst e
   generalize a.eval c = v at rc
   cases rc with | d hd => cases hd; rfl
 split at hk
 · rename_i t b1 b2
   refine A1 (run t (isb t rfl)) ?_
   cases t
   · refine .plain h (p := .d (.bool b2)) ?_ hk
     exact ry
   · refine .plain h (p := .d (.bool b1)) ?_ hk
     exact rx
 · rename_i t _
   refine A1 (run t (isb t rfl)) ?_
   cases t
   · exact .plain h ry (hk.2 rfl)
   · exact .plain h rx (hk.1 rfl)
 · exact hk.elim
theorem AR8 (h : XRel P N B w0 M g s a w) {t : TypeId} {x : Operand} {xa : XA} (hx : cA N x = some xa) (ho : o.op = .box t x) (hk : xop P (.box xa) K s) : Hp P B w0 M g s K o a w := by
 have rx := BY h hx
 simp only [xop] at hk
 obtain ⟨h1, hk⟩ := hk
 have hcells := rx.toCells (Aj3 h1)
 refine A1 (v := .pointer (some ⟨w.heap.size, 0, none⟩)) (w' := w.alloc (.cells (a.eval x).cells t)) (by simp [execOp, ho, Instr.box, newVar, newRow]) ?_
 have hp := h.st.push_box (a.eval x).cells.toList (ev s xa).cells t hcells (Xq h1)
 rw [Array.toArray_toList] at hp
 exact ⟨_, _, M, _, MLe.refl M, NLe.put g _ _ _, by simp, hp, .ptr (by simp [Nam.put]), hk⟩
theorem AM7 (h : XRel P N B w0 M g s a w) {t : TypeId} {i : TypeInfo} {z : Value} {zs : List PV} (hi : P.info? t = some i) (hz : i.zero = some z) (hc : QH z = some zs) (ho : o.op = .alloc t) (hk : xop P (.alloc zs) K s) : Hp P B w0 M g s K o a w := by
 simp only [xop] at hk
 obtain ⟨r1, r2⟩ := Rr hc M g
 refine A1 (v := .pointer (some ⟨w.heap.size, 0, none⟩)) (w' := w.alloc (.cells z.cells t)) (by simp [execOp, ho, Instr.alloc, newVar, newRow, Vh hi hz]) ?_
 have hp := h.st.push_box z.cells.toList zs t r1 r2
 rw [Array.toArray_toList] at hp
 exact ⟨_, _, M, _, MLe.refl M, NLe.put g _ _ _, by simp, hp, .ptr (by simp [Nam.put]), hk⟩
theorem AP5 (h : XRel P N B w0 M g s a w) {t : TypeId} {i : TypeInfo} {b : Bool} {x : Operand} {xa : XA} (hi : P.info? t = some i) (hb : KC P t = some b) (hx : cA N x = some xa) (ho : o.op = .load t x) (hk : xop P (.load b i.size xa) K s) : Hp P B w0 M g s K o a w := by
 have rx := BY h hx
 simp only [xop] at hk
 generalize ev s xa = px at rx hk
 generalize hv : a.eval x = v at rx
 split at hk
 · rename_i nb off
   split at hk
   · rename_i cells hst
     obtain ⟨blk, vs, T, rfl, hg, hh, hr, h1⟩ := Ag5 h.st rx hst
     cases b with
     | true =>
       simp only [if_true] at hk
       have hlen := hr.1
       have hl : ((vs.drop off).take i.size).length = i.size := by simp; omega
       have hrun := Ky hi hb w ⟨blk, off, none⟩ ((vs.drop off).take i.size) hl (fun j u hj => by
         rw [Qb hh, ← hj, List.getElem?_take, List.getElem?_drop]
         split
         · rfl
         · rename_i hlt; rw [List.getElem?_take, if_neg hlt] at hj; cases hj)
       refine A1 (v := .agg ((vs.drop off).take i.size).toArray) (w' := w) (by simp [execOp, ho, hv, Instr.loadAt, Instr.sureAddr, hrun]) (.plain h ?_ hk.2)
       have := (hr.drop off).take i.size
       exact .agg _ _ this.1 this.2
     | false =>
       simp only [Bool.false_eq_true, if_false] at hk
       cases hc : cells[off]? with
       | none => simp [hc] at hk
       | some p =>
         simp only [hc] at hk
         obtain ⟨u, hu, hru⟩ := hr.get hc
         have hcell : w.cell? ⟨blk, off, none⟩ = some u := by have := Qb hh off 0; rw [K6, Nat.add_zero] at this; rw [this, hu]
         exact A1 (v := u) (w' := w) (by simp [execOp, ho, hv, Instr.loadAt, Instr.sureAddr, Ks hb w _ u hcell]) (.plain h hru hk)
   · exact hk.elim
 · rename_i cells
   cases rx with
   | dp ad _ val hm hr =>
     cases b with
     | true =>
       simp only [if_true] at hk
       have hl : ((List.range i.size).map val).length = i.size := by simp
       have hrun := Ky hi hb w ad ((List.range i.size).map val) hl (fun j u hj => by
         have hjl : j < i.size := by
           by_cases hlt : j < i.size
           · exact hlt
           · rw [List.getElem?_eq_none (by simp; omega)] at hj; cases hj
         rw [List.getElem?_eq_getElem (by simpa using hjl)] at hj
         simp at hj
         rw [← hj]
         exact h.st.mem _ _ (hm j cells[j] (List.getElem?_eq_getElem (by omega))))
       refine A1 (v := .agg ((List.range i.size).map val).toArray) (w' := w) (by simp [execOp, ho, hv, Instr.loadAt, Instr.sureAddr, hrun]) (.plain h ?_ hk.2)
       refine .agg _ _ (by simp; omega) (fun j u p e1 e2 => ?_)
       have hjl : j < i.size := by
         by_cases hlt : j < i.size
         · exact hlt
         · rw [List.getElem?_eq_none (by simp; omega)] at e1; cases e1
       rw [List.getElem?_eq_getElem (by simpa using hjl)] at e1
       simp at e1
       rw [List.getElem?_map, List.getElem?_take, if_pos hjl, List.getElem?_eq_getElem (by omega)] at e2
       simp at e2
       subst e1
       subst e2
       exact .d (hr j _ (List.getElem?_eq_getElem (by omega)))
     | false =>
       simp only [Bool.false_eq_true, if_false] at hk
       cases hc : cells[0]? with
       | none => simp [hc] at hk
       | some d =>
         simp only [hc] at hk
         have hm0 := h.st.mem _ _ (hm 0 d hc)
         rw [K6] at hm0
         exact A1 (v := val 0) (w' := w) (by simp [execOp, ho, hv, Instr.loadAt, Instr.sureAddr, Ks hb w _ _ hm0]) (.plain h (.d (hr 0 d hc)) hk)
 · exact hk.elim
theorem AK5 (h : XRel P N B w0 M g s a w) {t : TypeId} {i : TypeInfo} {x y : Operand} {xa ya : XA} (hi : P.info? t = some i) (hx : cA N x = some xa) (hy : cA N y = some ya) (ho : o.op = .store t x y) (hk : xop P (.store i.size xa ya) K s) : Hp P B w0 M g s K o a w := by
 have rx := BY h hx
 have ry := BY h hy
 simp only [xop] at hk
 generalize ev s xa = px at rx hk
 generalize hv : a.eval x = v at rx
 split at hk
 · rename_i nb off
   split at hk
   · rename_i cells hst
     obtain ⟨hsz, hfit, hone, hk⟩ := hk
     obtain ⟨blk, vs, T, rfl, hg, hh, hr, h1⟩ := Ag5 h.st rx hst
     have hcy := ry.toCells (Aj3 hone)
     have hylen : (a.eval y).cells.size = i.size := by have := hcy.1; simpa [hsz] using this
     have hrun := run_storeCells_at P blk off T (a.eval y).cells.toList 0 vs.toArray w hh (by have := hr.1; simp; omega) (fun u hu => by
       obtain ⟨k, hkl, rfl⟩ := List.getElem_of_mem hu
       have hkl' : k < (ev s ya).cells.length := by have := hcy.1; omega
       exact (hcy.2 k _ _ (List.getElem?_eq_getElem hkl) (List.getElem?_eq_getElem hkl')).one (Xq hone _ (List.getElem_mem hkl')))
     have hone' : ∀ p, p ∈ splice cells off (ev s ya).cells → p.one = true := fun p hp => by
       simp only [splice, List.mem_append] at hp
       rcases hp with (hp | hp) | hp
       · exact h1 p (List.mem_of_mem_take hp)
       · exact Xq hone p hp
       · exact h1 p (List.mem_of_mem_drop hp)
     have hw := h.st.set_box hst hg (splice vs off (a.eval y).cells.toList) (hr.splice hcy off) hone'
     · refine ⟨.skip, undef, _, ?_, .inr ⟨rfl, rfl⟩, ⟨_, _, M, g, MLe.refl M, NLe.refl _ g, by simp, hw, ?_, hk⟩⟩
       · simp [execOp, ho, hv, Instr.storeAt, Instr.sureAddr, storeVar, Ec hi, hylen, hrun, splice]
       · exact .tup [] [] rfl (fun i v p h => by simp at h)
   · exact hk.elim
 · exact hk.elim
end
end Go.Ax
