import Derived.Test.YtojkpenjeglipaaGreatTAxVg
set_option linter.unusedVariables false
namespace Go.Ax
open Go.RowKit
section
variable {P : Program} {N B : Nat} {w0 : World} {M : Mem} {g : Nam} {s : XS} {a : Act} {w : World} {K : PV → List Content → Prop} {o : Oper}
theorem AP1 {st : List Content} (h : SRel P B w0 M g st w) {v : Value} {p : PV} (hv : RepV M g v p) {rows : List (List D)} (hr : A4 st p = some rows) : ∃ M', MLe M M' ∧ SRel P B w0 M' g st w ∧ RepD M' v (.sl rows) := by
 obtain ⟨M', h1, h2, h3⟩ := h.frz_ok hv
 refine ⟨M', h1, h2, ?_⟩
 have e : frz st p = .d (.sl rows) := by
   cases p with
   | d x => cases x <;> simp [A4] at hr; subst hr; rfl
   | ex r => simp [A4] at hr; subst hr; rfl
   | own t ver =>
     simp only [A4] at hr
     simp only [frz]
     cases hst : st[t]? with
     | none => simp [hst] at hr
     | some c =>
       cases c with
       | row e' ver' rows' =>
         simp only [hst] at hr ⊢
         split at hr
         · rename_i hver; simp at hr; subst hr; rw [if_pos hver]
         · cases hr
       | _ => simp [hst] at hr
   | _ => simp [A4] at hr
 rw [e] at h3
 cases h3 with
 | d hd => exact hd
theorem BA0 (h : XRel P N B w0 M g s a w) {t e : TypeId} {i : TypeInfo} {x y : Operand} {xa ya : XA} (ht : P.underlying t = some (.slice e)) (hi : P.info? e = some i) (h0 : 0 < i.size) (hx : cA N x = some xa) (hy : cA N y = some ya) (ho : o.op = .indexAddr t x y) (hk : xop P (.indexAddr i.size xa ya) K s) : HU P B w0 M g s K o a w := by
 have rx := BT h hx
 have ry := BT h hy
 simp only [xop] at hk
 split at hk
 · rename_i rows k n hr hn
   rw [hn] at ry
   have hvy := RD ry
   obtain ⟨hn0, hn1, hk⟩ := hk
   obtain ⟨M', hle, hs, hd⟩ := AP1 h.st rx hr
   generalize hvx : a.eval x = vx at rx hd
   have hlt : n.toNat < rows.length := by omega
   obtain ⟨hrow, hk⟩ := hk _ (List.getElem?_eq_getElem hlt)
   cases hd with
   | nil => simp at hlt
   | sl ad cap size _ val hc hs' hm hrr =>
     have hsz : size = i.size := by rw [← hs' _ _ (List.getElem?_eq_getElem hlt)]; exact hrow
     subst hsz
     refine AU (v := .pointer (some (ad.add (n.toNat * i.size)))) (w' := w) ?_ ⟨_, s.st, M', g, hle, NLe.refl _ g, Nat.le_refl _, hs, ?_, hk⟩
     · simp [execOp, ho, hvx, hvy, Instr.indexAt, asIntOf, run_underlying ht, hn0, hn1, Ed hi]
     · refine .dp _ _ (fun j => val n.toNat j) (fun j d hj => ?_) (fun j d hj => ?_)
       · rw [Au5]; exact hm _ _ j d (List.getElem?_eq_getElem hlt) hj
       · exact hrr _ _ j d (List.getElem?_eq_getElem hlt) hj
 · exact hk.elim
theorem RepD.part {M : Mem} {ad : Option Addr} {n cap : Nat} {rows : List (List D)} (h : RepD M (.slice ad n cap) (.sl rows)) {size : Nat} (hz : ∀ row, row ∈ rows → row.length = size) (lo hi m : Nat) (h1 : lo ≤ hi) (h2 : hi ≤ rows.length) (hm : hi ≤ m) (hmc : m ≤ cap) :
   RepD M (.slice (if m = lo then ad else ad.map (·.add (lo * size))) (hi - lo) (m - lo)) (.sl ((rows.take hi).drop lo)) := by
 have hl : ((rows.take hi).drop lo).length = hi - lo := by simp; omega
 cases h with
 | nil =>
   simp at h2
   subst h2
   have : lo = 0 := by omega
   subst this
   have : m = 0 := by omega
   subst this
   simpa using RepD.nil
 | sl a cap size' rows val hc hs hmm hr =>
   have hsame : ∀ i, i < rows.length → size' = size := fun i hi' => by rw [← hs i _ (List.getElem?_eq_getElem hi')]; exact hz _ (List.getElem_mem hi')
   have key : ∀ b : Addr, (∀ j, lo < hi → b.add j = a.add (lo * size + j)) → RepD M (.slice (some b) (hi - lo) (m - lo)) (.sl ((rows.take hi).drop lo)) := fun b hb => by
     rw [← hl]
     have get : ∀ i row, ((rows.take hi).drop lo)[i]? = some row → rows[lo + i]? = some row ∧ lo + i < hi := fun i row e => by
       rw [List.getElem?_drop, List.getElem?_take] at e
       split at e
       · exact ⟨e, by assumption⟩
       · cases e
     refine .sl b (m - lo) size' _ (fun i j => val (lo + i) j) (by omega) (fun i row e => hs _ row (get i row e).1) (fun i row j d e ej => ?_) (fun i row j d e ej => hr _ row j d (get i row e).1 ej)
     obtain ⟨g1, g2⟩ := get i row e
     rw [hb _ (by omega), ← hsame 0 (by omega)]
     have := hmm (lo + i) row j d g1 ej
     rw [Nat.add_mul] at this
     rw [← this]
     congr 1
     rw [Nat.add_assoc]
   by_cases hml : m = lo
   · rw [if_pos hml]
     exact key a (fun j hlt => by omega)
   · rw [if_neg hml]
     exact key (a.add (lo * size)) (fun j _ => Au5 _ _ _)
theorem JE {dflt : Int} {Kb : Int → Prop} (h : XRel P N B w0 M g s a w) {x : Option Operand} {xa : Option XA} (hx : cAo N x = some xa) (hk : bnd s dflt Kb xa) :
   (x = none ∧ xa = none ∧ Kb dflt) ∨ ∃ op k i, x = some op ∧ a.eval op = .int k i ∧ xa ≠ none ∧ Kb i := by
 cases x with
 | none => simp [cAo] at hx; subst hx; exact .inl ⟨rfl, rfl, hk⟩
 | some op =>
   simp only [cAo] at hx
   cases e : cA N op with
   | none => simp [e] at hx
   | some q =>
     simp [e] at hx
     subst hx
     simp only [bnd] at hk
     split at hk
     · rename_i k i he
       have r := BT h e
       rw [he] at r
       exact .inr ⟨op, k, i, rfl, RD r, by simp, hk⟩
     · exact hk.elim
theorem Fs (k : IntKind) (i : Int) (y : Nat) (code : BoundsCode) (h0 : 0 ≤ i) (h1 : i ≤ y) (w : World) : (Instr.sliceBound (.int k i) y code).run P w = .ok i.toNat w := by
 simp [Instr.sliceBound, asIntOf, h0, h1]
theorem Cb0 (h : XRel P N B w0 M g s a w) {t : TypeId} {x : Operand} {lo hi : Option Operand} {xa : XA} {la ha : Option XA} (ht : P.underlying t = some .string) (hx : cA N x = some xa) (hl : cAo N lo = some la) (hh : cAo N hi = some ha) (ho : o.op = .slice t x lo hi none) (hk : xop P (.sliceS xa la ha) K s) : HU P B w0 M g s K o a w := by
 have rx := BT h hx
 simp only [xop] at hk
 split at hk
 · rename_i b hb
   rw [hb] at rx
   have hv := T9 rx
   rcases JE h hl hk with ⟨rfl, rfl, hk1⟩ | ⟨lop, kl, l, rfl, hle, hne, hk1⟩
   · rcases JE h hh hk1 with ⟨rfl, rfl, hk2⟩ | ⟨hop, kh, hi', rfl, hhe, hne2, hk2⟩
     · obtain ⟨q1, q2, q3, hk⟩ := hk2
       exact AU (v := .string (b.extract 0 b.size)) (w' := w) (by simp [execOp, ho, hv, Instr.sliceAt, Instr.slice, run_underlying ht, Instr.sliceBounds]) (.plain h (.d (.str _)) (by simpa using hk))
     · obtain ⟨q1, q2, q3, hk⟩ := hk2
       exact AU (v := .string (b.extract 0 hi'.toNat)) (w' := w) (by simp [execOp, ho, hv, Instr.sliceAt, Instr.slice, run_underlying ht, Instr.sliceBounds, hhe, Fs kh hi' b.size _ (by omega) q3]) (.plain h (.d (.str _)) (by simpa using hk))
   · rcases JE h hh hk1 with ⟨rfl, rfl, hk2⟩ | ⟨hop, kh, hi', rfl, hhe, hne2, hk2⟩
     · obtain ⟨q1, q2, q3, hk⟩ := hk2
       exact AU (v := .string (b.extract l.toNat b.size)) (w' := w) (by simp [execOp, ho, hv, Instr.sliceAt, Instr.slice, run_underlying ht, Instr.sliceBounds, hle, Fs kl l b.size _ q1 q2]) (.plain h (.d (.str _)) (by simpa using hk))
     · obtain ⟨q1, q2, q3, hk⟩ := hk2
       exact AU (v := .string (b.extract l.toNat hi'.toNat)) (w' := w) (by
         simp [execOp, ho, hv, Instr.sliceAt, Instr.slice, run_underlying ht, Instr.sliceBounds, hhe, hle, Fs kh hi' b.size _ (by omega) q3, Fs kl l hi'.toNat _ q1 (by omega)]) (.plain h (.d (.str _)) hk)
 · exact hk.elim
theorem BX1 (h : XRel P N B w0 M g s a w) {t e : TypeId} {i : TypeInfo} {x : Operand} {lo hi mx : Option Operand} {xa : XA} {la ha ma : Option XA} (ht : P.underlying t = some (.slice e)) (hi' : P.info? e = some i) (hx : cA N x = some xa) (hl : cAo N lo = some la) (hh : cAo N hi = some ha) (hm : cAo N mx = some ma)
   (ho : o.op = .slice t x lo hi mx) (hk : xop P (.sliceR i.size xa la ha ma) K s) : HU P B w0 M g s K o a w := by
 have rx := BT h hx
 simp only [xop] at hk
 split at hk
 · -- no max
   rename_i rows hr
   obtain ⟨hz, hk⟩ := hk
   obtain ⟨M', hle', hs, hd⟩ := AP1 h.st rx hr
   have hmx : mx = none := by
     cases mx with
     | none => rfl
     | some q => simp only [cAo] at hm; cases e' : cA N q <;> simp [e'] at hm
   subst hmx
   obtain ⟨ad, cap, hv, hcap⟩ := Ar9 h.st rx hr
   rw [hv] at hd
   have fin : ∀ l h' : Nat, l ≤ h' → h' ≤ rows.length → (execOp a.eval o).run P w = .ok (.value (.slice (if cap = l then ad else ad.map (·.add (l * i.size))) (h' - l) (cap - l))) w → K (.d (.sl ((rows.take h').drop l))) s.st → HU P B w0 M g s K o a w := fun l h' q1 q2 hrun hk =>
     AU hrun ⟨_, s.st, M', g, hle', NLe.refl _ g, Nat.le_refl _, hs, .d (hd.part hz l h' cap q1 q2 (by omega) (Nat.le_refl _)), hk⟩
   rcases JE h hl hk with ⟨rfl, rfl, hk1⟩ | ⟨lop, kl, l, rfl, hle, hne, hk1⟩
   · rcases JE h hh hk1 with ⟨rfl, rfl, hk2⟩ | ⟨hop, kh, h', rfl, hhe, hne2, hk2⟩
     · obtain ⟨q1, q2, q3, hk⟩ := hk2
       exact fin 0 rows.length (by omega) (Nat.le_refl _) (by simp [execOp, ho, hv, Instr.sliceAt, Instr.slice, run_underlying ht, Instr.sliceBounds, Ed hi']) (by simpa using hk)
     · obtain ⟨q1, q2, q3, hk⟩ := hk2
       exact fin 0 h'.toNat (by omega) (by omega) (by simp [execOp, ho, hv, Instr.sliceAt, Instr.slice, run_underlying ht, Instr.sliceBounds, Ed hi', hhe, Fs kh h' cap _ (by omega) (by omega)]) (by simpa using hk)
   · rcases JE h hh hk1 with ⟨rfl, rfl, hk2⟩ | ⟨hop, kh, h', rfl, hhe, hne2, hk2⟩
     · obtain ⟨q1, q2, q3, hk⟩ := hk2
       exact fin l.toNat rows.length (by omega) (Nat.le_refl _) (by simp [execOp, ho, hv, Instr.sliceAt, Instr.slice, run_underlying ht, Instr.sliceBounds, Ed hi', hle, Fs kl l rows.length _ q1 q2]) (by simpa using hk)
     · obtain ⟨q1, q2, q3, hk⟩ := hk2
       exact fin l.toNat h'.toNat (by omega) (by omega) (by
         simp [execOp, ho, hv, Instr.sliceAt, Instr.slice, run_underlying ht, Instr.sliceBounds, Ed hi', hhe, hle, Fs kh h' cap _ (by omega) (by omega), Fs kl l h'.toNat _ q1 (by omega)]) hk
 · -- with max
   rename_i rows m hr
   obtain ⟨hz, hk⟩ := hk
   obtain ⟨M', hle', hs, hd⟩ := AP1 h.st rx hr
   obtain ⟨ad, cap, hv, hcap⟩ := Ar9 h.st rx hr
   rw [hv] at hd
   have fin : ∀ l h' : Nat, l ≤ h' → h' ≤ rows.length → (execOp a.eval o).run P w = .ok (.value (.slice (if h' = l then ad else ad.map (·.add (l * i.size))) (h' - l) (h' - l))) w → K (.ex ((rows.take h').drop l)) s.st → HU P B w0 M g s K o a w := fun l h' q1 q2 hrun hk => by
     have hp := hd.part hz l h' h' q1 q2 (Nat.le_refl _) (by omega)
     have hlen : ((rows.take h').drop l).length = h' - l := by simp; omega
     refine AU hrun ⟨_, s.st, M', g, hle', NLe.refl _ g, Nat.le_refl _, hs, ?_, hk⟩
     generalize (rows.take h').drop l = part at hp hlen
     generalize (if h' = l then ad else ad.map (·.add (l * i.size))) = q at hp ⊢
     rw [← hlen] at hp ⊢
     cases q with
     | none =>
       cases part with
       | nil => exact .exnil
       | cons r rs => cases hp
     | some q => exact .ex q part hp
   have getm : ∀ (Kb : Int → Prop), bnd s 0 Kb (some m) → ∃ mop km mi, mx = some mop ∧ a.eval mop = .int km mi ∧ Kb mi := fun Kb hb => by
     rcases JE h hm hb with ⟨rfl, e', _⟩ | ⟨mop, km, mi, rfl, hme, _, hk⟩
     · cases e'
     · exact ⟨mop, km, mi, rfl, hme, hk⟩
   rcases JE h hl hk with ⟨rfl, rfl, hk1⟩ | ⟨lop, kl, l, rfl, hle, hne, hk1⟩
   · rcases JE h hh hk1 with ⟨rfl, rfl, hk2⟩ | ⟨hop, kh, h', rfl, hhe, hne2, hk2⟩
     · obtain ⟨mop, km, mi, rfl, hme, q1, q2, q3, q4, hk⟩ := getm _ hk2
       omega
     · obtain ⟨mop, km, mi, rfl, hme, q1, q2, q3, q4, hk⟩ := getm _ hk2
       subst q3
       exact fin 0 mi.toNat (by omega) (by omega) (by simp [execOp, ho, hv, Instr.sliceAt, Instr.slice, run_underlying ht, Instr.sliceBounds, Ed hi', hhe, hme, Fs km mi cap _ (by omega) (by omega), Fs kh mi mi.toNat _ (by omega) (by omega)]) (by simpa using hk)
   · rcases JE h hh hk1 with ⟨rfl, rfl, hk2⟩ | ⟨hop, kh, h', rfl, hhe, hne2, hk2⟩
     · obtain ⟨mop, km, mi, rfl, hme, q1, q2, q3, q4, hk⟩ := getm _ hk2
       omega
     · obtain ⟨mop, km, mi, rfl, hme, q1, q2, q3, q4, hk⟩ := getm _ hk2
       subst q3
       exact fin l.toNat mi.toNat (by omega) (by omega) (by simp [execOp, ho, hv, Instr.sliceAt, Instr.slice, run_underlying ht, Instr.sliceBounds, Ed hi', hhe, hme, hle, Fs km mi cap _ (by omega) (by omega), Fs kh mi mi.toNat _ (by omega) (by omega), Fs kl l mi.toNat _ q1 (by omega)]) hk
 · exact hk.elim
theorem BD9 (h : XRel P N B w0 M g s a w) {mx : Bool} {k : IntKind} {Kr : Int → Prop} : ∀ (xs : List Operand) (as : List XA) (n : Int), cAs N xs = some as → mmD mx s n as Kr k →
   ∃ r, Kr r ∧ (List.foldlM (if mx then Builtin.max2 else Builtin.min2) (.int k n) (xs.map a.eval)).run P w = .ok (.int k r) w
 | [], as, n, hx, hk => by simp [cAs] at hx; subst hx; exact ⟨n, hk, by simp⟩
 | x :: xs, as, n, hx, hk => by
   simp only [cAs] at hx
   cases h1 : cA N x with
   | none => simp [h1] at hx
   | some p => cases h2 : cAs N xs with
     | none => simp [h1, h2] at hx
     | some qs =>
       simp [h1, h2] at hx
       subst hx
       simp only [mmD] at hk
       split at hk
       · rename_i k' y he
         obtain ⟨rfl, hk⟩ := hk
         have r := BT h h1
         rw [he] at r
         have hv := RD r
         obtain ⟨r', q1, q2⟩ := BD9 h xs qs _ h2 hk
         refine ⟨r', q1, ?_⟩
         rw [← q2]
         simp only [List.map_cons, List.foldlM_cons, hv, Sem.run_bind]
         cases mx
         · simp [Builtin.min2, show (if y < n then y else n) = min n y by omega]
         · simp [Builtin.max2, show (if y > n then y else n) = max n y by omega]
       · exact hk.elim
theorem Bx8 (h : XRel P N B w0 M g s a w) {mx : Bool} {c : Call} {xs : List XA} {xa : XA} (hx : cAs N c.args.toList = some (xa :: xs)) (ho : o.op = .call c) (hc : c.callee = .builtin (if mx then .max else .min)) (hk : xop P (.minmax mx xa xs) K s) : HU P B w0 M g s K o a w := by
 simp only [xop] at hk
 cases hargs : c.args.toList with
 | nil => rw [hargs] at hx; simp [cAs] at hx
 | cons x r =>
   rw [hargs] at hx
   simp only [cAs] at hx
   cases h1 : cA N x with
   | none => simp [h1] at hx
   | some p => cases h2 : cAs N r with
     | none => simp [h1, h2] at hx
     | some qs =>
       simp [h1, h2] at hx
       obtain ⟨rfl, rfl⟩ := hx
       split at hk
       · rename_i k n he
         have rr := BT h h1
         rw [he] at rr
         have hv := RD rr
         obtain ⟨r', q1, q2⟩ := BD9 h r qs n h2 hk
         refine AU (v := .int k r') (w' := w) (MO ho hc fun cs => ?_) (.plain h (.d (.int _ _)) q1)
         have harr := As4 hargs
         cases mx
         · simp only [Bool.false_eq_true, if_false] at q2 ⊢
           simp [builtin, harr, Builtin.min_, hv, q2]
         · simp only [if_true] at q2 ⊢
           simp [builtin, harr, Builtin.max_, hv, q2]
       · exact hk.elim
theorem BV8 (h : XRel P N B w0 M g s a w) {t e : TypeId} {i : TypeInfo} {z : Value} {c : Call} {x y : Operand} {xa ya : XA} (ht : P.underlying t = some (.slice e)) (hi : P.info? e = some i) (hz : i.zero = some z) (hzs : z.cells.size = i.size) (h0 : 0 < i.size) (hb0 : 0 < i.bytes)
   (hx : cA N x = some xa) (hy : cA N y = some ya) (ho : o.op = .call c) (hc : c.callee = .builtin .append) (ha : c.args.toList = [x, y]) (htt : c.argTypes.toList = [t, t]) (hk : xop P (.append e i.size i.bytes xa ya) K s) : HU P B w0 M g s K o a w := by
 have rx := BT h hx
 have ry := BT h hy
 simp only [xop] at hk
 split at hk
 case h_2 => exact hk.elim
 rename_i ys hys
 obtain ⟨hyl, hk⟩ := hk
 have run : ∀ v' w', (Builtin.append_ #[t, t] o.type #[a.eval x, a.eval y]).run P w = .ok v' w' → (execOp a.eval o).run P w = .ok (.value v') w' := fun v' w' hr => MO ho hc fun cs => by
   rw [As4 ha, As4 htt]
   simp [builtin, hr]
 generalize hvx : a.eval x = vx at rx run
 generalize hvy : a.eval y = vy at ry run
 split at hk
 · rename_i rows he
   obtain ⟨hrl, hbound, hk⟩ := hk
   rw [he] at rx
   obtain ⟨fl, s1, n1, o1⟩ := h.st.adopt rx e (size := i.size) (by simp [hi]) hrl
   have hst : (s.st ++ [.row e 0 rows])[s.st.length]? = some (.row e 0 rows) := by simp
   have hys' : A4 (s.st ++ [.row e 0 rows]) (ev s ya) = some ys := by
     revert hys
     generalize ev s ya = py
     cases py with
     | own tt ver =>
       simp only [A4]
       cases e1 : s.st[tt]? with
       | none => simp
       | some cc => rw [List.getElem?_append_left (List.getElem?_eq_some_iff.1 e1).1, e1]; exact id
     | d q => cases q <;> exact id
     | _ => exact id
   obtain ⟨v', fl', w', g', q1, q2, q3, q4, q5⟩ := s1.append_own hst (v := vx) (fl := fl) (by simp [Nam.put]) (ry.mono (MLe.refl M) n1 h.st.dom) hys' t o.type ht i hi z hz hzs h0 hb0 hyl hbound
   refine AU (run v' w' q1) ⟨.own s.st.length 1, s.st ++ [.row e 1 (rows ++ ys)], M, g', MLe.refl M, n1.trans (q2.mono (by simp)), by simp, ?_, .own q4 q5, hk⟩
   have : (s.st ++ [Content.row e 0 rows]).set s.st.length (.row e (0 + 1) (rows ++ ys)) = s.st ++ [.row e 1 (rows ++ ys)] := by simp [List.set_append]
   rw [← this]
   exact q3
 · rename_i tt ver he
   split at hk
   · rename_i e' ver' rows hst
     obtain ⟨rfl, rfl, hbound, hk⟩ := hk
     rw [he] at rx
     cases rx with
     | own hg h1 =>
       obtain ⟨v', fl', w', g', q1, q2, q3, q4, q5⟩ := h.st.append_own hst hg ry hys t o.type ht i hi z hz hzs h0 hb0 hyl hbound
       exact AU (run v' w' q1) ⟨.own tt (ver' + 1), _, M, g', MLe.refl M, q2, by simp, q3, .own q4 q5, hk⟩
   · exact hk.elim
 · exact hk.elim
end
end Go.Ax
