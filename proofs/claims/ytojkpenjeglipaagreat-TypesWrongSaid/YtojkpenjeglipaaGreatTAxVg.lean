import Derived.Test.YtojkpenjeglipaaGreatTAxVf
set_option linter.unusedVariables false
namespace Go.Ax
open Go.RowKit
theorem RD {M : Mem} {g : Nam} {v : Value} {k : IntKind} {n : Int} (h : RepV M g v (.d (.int k n))) : v = .int k n := by cases h with | d h => cases h; rfl
theorem V9 {M : Mem} {g : Nam} {v : Value} {b : Bool} (h : RepV M g v (.d (.bool b))) : v = .bool b := by cases h with | d h => cases h; rfl
theorem T9 {M : Mem} {g : Nam} {v : Value} {b : ByteArray} (h : RepV M g v (.d (.str b))) : v = .string b := by cases h with | d h => cases h; rfl
theorem Ue {P : Program} (op : BinOp) (t : TypeId) (x y : Operand) (u v : Value) (w : World) (h : (∀ cs, u ≠ .agg cs) ∧ u ≠ .nilIface) : (eqGuard op t x y u v).run P w = .ok () w := by
 obtain ⟨h1, h2⟩ := h
 unfold eqGuard
 cases u <;> first | (exact absurd rfl h2) | (exact absurd rfl (h1 _)) | (cases op <;> simp)
theorem BW0 {P : Program} {t : TypeId} {op : BinOp} {k k' : IntKind} {a b : Int} {Kd : D → Prop} (h : EO op Kd (.int k a) (.int k' b)) :
   ∃ r v, Kd r ∧ (∀ M, RepD M v r) ∧ ∀ w, (binOp op t (.int k a) (.int k' b)).run P w = .ok v w := by
 have bits : ∀ (op : BinOp) (n : Nat), (Op.intBits op k a b = pure (.int k (k.wrap n))) → (op = .and ∨ op = .or ∨ op = .xor ∨ op = .andNot) → ∀ w, (binOp op t (.int k a) (.int k b)).run P w = .ok (.int k (k.wrap n)) w := fun op n e ho w => by
   rcases ho with rfl | rfl | rfl | rfl <;> (simp only [binOp, ne_eq, not_true_eq_false, if_false, e]; rfl)
 cases op <;> simp only [EO] at h
 case add => obtain ⟨rfl, h⟩ := h; exact ⟨_, _, h, fun _ => .int _ _, fun w => by simp [binOp, Op.intArith]⟩
 case sub => obtain ⟨rfl, h⟩ := h; exact ⟨_, _, h, fun _ => .int _ _, fun w => by simp [binOp, Op.intArith]⟩
 case mul => obtain ⟨rfl, h⟩ := h; exact ⟨_, _, h, fun _ => .int _ _, fun w => by simp [binOp, Op.intArith]⟩
 case quo => obtain ⟨rfl, h0, h⟩ := h; exact ⟨_, _, h, fun _ => .int _ _, fun w => by simp [binOp, Op.intDiv, h0]⟩
 case rem => obtain ⟨rfl, h0, h⟩ := h; exact ⟨_, _, h, fun _ => .int _ _, fun w => by simp [binOp, Op.intDiv, h0]⟩
 case and => obtain ⟨rfl, h⟩ := h; exact ⟨_, _, h, fun _ => .int _ _, bits .and _ rfl (by simp)⟩
 case or => obtain ⟨rfl, h⟩ := h; exact ⟨_, _, h, fun _ => .int _ _, bits .or _ rfl (by simp)⟩
 case xor => obtain ⟨rfl, h⟩ := h; exact ⟨_, _, h, fun _ => .int _ _, bits .xor _ rfl (by simp)⟩
 case andNot => obtain ⟨rfl, h⟩ := h; exact ⟨_, _, h, fun _ => .int _ _, bits .andNot _ rfl (by simp)⟩
 case shl => obtain ⟨h0, h⟩ := h; exact ⟨_, _, h, fun _ => .int _ _, fun w => by simp [binOp, Op.shift, show ¬ b < 0 by omega]⟩
 case shr => obtain ⟨h0, h⟩ := h; exact ⟨_, _, h, fun _ => .int _ _, fun w => by simp [binOp, Op.shift, show ¬ b < 0 by omega]⟩
 all_goals (obtain ⟨rfl, h⟩ := h; exact ⟨_, _, h, fun _ => .bool _, fun w => by simp [binOp, Op.intCmp]⟩)
theorem BY5 {P : Program} {t : TypeId} {op : BinOp} {a b : ByteArray} {Kd : D → Prop} (h : EO op Kd (.str a) (.str b)) :
   ∃ r v, Kd r ∧ (∀ M, RepD M v r) ∧ ∀ w, (binOp op t (.string a) (.string b)).run P w = .ok v w := by
 cases op <;> simp only [EO] at h
 case add =>
   obtain ⟨h0, h⟩ := h
   have hmax : IntKind.i64.max = 9223372036854775807 := rfl
   exact ⟨_, _, h, fun _ => .str _, fun w => by simp [binOp, Op.stringOp, hmax]; simp at h0; omega⟩
 all_goals first
   | exact h.elim
   | exact ⟨_, _, h, fun _ => .bool _, fun w => by simp [binOp, Op.stringOp]⟩
section
variable {P : Program} {N B : Nat} {w0 : World} {M : Mem} {g : Nam} {s : XS} {a : Act} {w : World} {K : PV → List Content → Prop} {o : Oper}
theorem BL7 (h : XRel P N B w0 M g s a w) {x : Operand} {xa : XA} (hx : cA N x = some xa) (ho : o.op = .nilCheck x) (hk : xop P (.nilCheck xa) K s) : HU P B w0 M g s K o a w := by
 have rx := BT h hx
 simp only [xop] at hk
 generalize ev s xa = px at rx hk
 generalize hv : a.eval x = v at rx
 have run : (v = v → (v ≠ .pointer none ∧ v ≠ .nilIface ∧ v ≠ .nilFunc ∧ ∀ m f c, v ≠ .func (.method m) f c)) → (execOp a.eval o).run P w = .ok (.value v) w := fun hne => by
   obtain ⟨h1, h2, h3, h4⟩ := hne rfl
   simp only [execOp, ho, hv]
   cases v with
   | pointer p => cases p <;> first | (exact absurd rfl h1) | rfl
   | nilIface => exact absurd rfl h2
   | nilFunc => exact absurd rfl h3
   | func f a b => cases f <;> first | (exact absurd rfl (h4 _ _ _)) | rfl
   | _ => rfl
 split at hk
 · refine AU (run fun _ => ?_) (.plain h rx hk)
   cases rx; simp
 · refine AU (run fun _ => ?_) (.plain h rx hk)
   cases rx; simp
 · refine AU (run fun _ => ?_) (.plain h rx hk)
   cases rx; simp
 · exact hk.elim
theorem Ce9 (h : XRel P N B w0 M g s a w) {op : BinOp} {t t' : TypeId} {x y : Operand} {xa ya : XA} (hx : cA N x = some xa) (hy : cA N y = some ya) (ho : o.op = .binOp op t x y t') (hk : xop P (.bin op xa ya) K s) : HU P B w0 M g s K o a w := by
 have rx := BT h hx
 have ry := BT h hy
 simp only [xop] at hk
 generalize ev s xa = px at rx hk
 generalize ev s ya = py at ry hk
 generalize hvx : a.eval x = vx at rx
 generalize hvy : a.eval y = vy at ry
 split at hk
 · rename_i da db
   cases da with
   | int k n =>
     cases db with
     | int k' m =>
       obtain rfl := RD rx
       obtain rfl := RD ry
       have hg := Ue (P := P) op t x y (.int k n) (.int k' m) w ⟨by simp, by simp⟩
       obtain ⟨r, v, h1, h2, h3⟩ := BW0 (P := P) (t := t) hk
       exact AU (v := v) (w' := w) (by simp [execOp, ho, hvx, hvy, hg, h3]) (.plain h (.d (h2 M)) h1)
     | _ => simp [EO] at hk
   | str u =>
     cases db with
     | str u' =>
       obtain rfl := T9 rx
       obtain rfl := T9 ry
       have hg := Ue (P := P) op t x y (.string u) (.string u') w ⟨by simp, by simp⟩
       obtain ⟨r, v, h1, h2, h3⟩ := BY5 (P := P) (t := t) hk
       exact AU (v := v) (w' := w) (by simp [execOp, ho, hvx, hvy, hg, h3]) (.plain h (.d (h2 M)) h1)
     | _ => simp [EO] at hk
   | bool _ => cases db <;> simp [EO] at hk
   | sl _ => cases db <;> simp [EO] at hk
 · exact hk.elim
theorem AQ0 {t : TypeId} (ht : P.underlying t = some .bool) (d : Nat) (b c : Bool) (w : World) : (Op.equalIn (d + 1) t (.bool b) (.bool c)).run P w = .ok (b == c) w := by
 simp [Op.equalIn, run_underlying ht]
theorem Bj0 {t : TypeId} (ht : P.underlying t = some .bool) (b c : Bool) (w : World) : (Op.equal t (.bool b) (.bool c)).run P w = .ok (b == c) w := AQ0 ht 9999 b c w
theorem BF9 (h : XRel P N B w0 M g s a w) {op : BinOp} {neg : Bool} {t t' : TypeId} {x y : Operand} {xa ya : XA} (ht : P.underlying t = some .bool) (hx : cA N x = some xa) (hy : cA N y = some ya) (ho : o.op = .binOp op t x y t')
   (hop : (op = .eql ∧ neg = false) ∨ (op = .neq ∧ neg = true)) (hk : xop P (.eqBool neg xa ya) K s) : HU P B w0 M g s K o a w := by
 have rx := BT h hx
 have ry := BT h hy
 simp only [xop] at hk
 generalize ev s xa = px at rx hk
 generalize ev s ya = py at ry hk
 generalize hvx : a.eval x = vx at rx
 generalize hvy : a.eval y = vy at ry
 split at hk
 · rename_i b c
   obtain rfl := V9 rx
   obtain rfl := V9 ry
   have hg := Ue (P := P) op t x y (.bool b) (.bool c) w ⟨by simp, by simp⟩
   have he := Bj0 (P := P) ht b c w
   rcases hop with ⟨rfl, rfl⟩ | ⟨rfl, rfl⟩
   · exact AU (v := .bool (b == c)) (w' := w) (by simp [execOp, ho, hvx, hvy, hg, binOp, he]) (.plain h (.d (.bool _)) (by simpa using hk))
   · exact AU (v := .bool (!(b == c))) (w' := w) (by simp [execOp, ho, hvx, hvy, hg, binOp, he]) (.plain h (.d (.bool _)) (by simpa using hk))
 · exact hk.elim
theorem Ci5 (h : XRel P N B w0 M g s a w) {t : TypeId} {x : Operand} {xa : XA} (hx : cA N x = some xa) (ho : o.op = .unOp .not t x) (hk : xop P (.not xa) K s) : HU P B w0 M g s K o a w := by
 have rx := BT h hx
 simp only [xop] at hk
 generalize ev s xa = px at rx hk
 generalize hv : a.eval x = v at rx
 split at hk
 · obtain rfl := V9 rx
   exact AU (v := _) (w' := w) (by simp only [execOp, ho, hv, Op.unary, Sem.run_bind, Result.andThen_ok, Sem.run_pure]) (.plain h (.d (.bool _)) hk)
 · exact hk.elim
theorem Ci9 (h : XRel P N B w0 M g s a w) {t : TypeId} {x : Operand} {xa : XA} (hx : cA N x = some xa) (ho : o.op = .unOp .neg t x) (hk : xop P (.neg xa) K s) : HU P B w0 M g s K o a w := by
 have rx := BT h hx
 simp only [xop] at hk
 generalize ev s xa = px at rx hk
 generalize hv : a.eval x = v at rx
 split at hk
 · obtain rfl := RD rx
   exact AU (v := _) (w' := w) (by simp only [execOp, ho, hv, Op.unary, Op.intArith, Sem.run_bind, Result.andThen_ok, Sem.run_pure]) (.plain h (.d (.int _ _)) hk)
 · exact hk.elim
theorem Ce2 (h : XRel P N B w0 M g s a w) {t u : TypeId} {j k : IntKind} {x : Operand} {xa : XA} (ht : P.underlying t = some (.int j)) (hu : P.underlying u = some (.int k)) (hx : cA N x = some xa) (ho : o.op = .convert t u x) (hk : xop P (.toInt k xa) K s) : HU P B w0 M g s K o a w := by
 have rx := BT h hx
 simp only [xop] at hk
 generalize ev s xa = px at rx hk
 generalize hv : a.eval x = v at rx
 split at hk
 · obtain rfl := RD rx
   exact AU (v := _) (w' := w) (by simp only [execOp, ho, hv, convert, run_underlying ht, run_underlying hu, Conv.intToInt, Sem.run_bind, Result.andThen_ok, Sem.run_pure]) (.plain h (.d (.int _ _)) hk)
 · exact hk.elim
theorem Cc1 (h : XRel P N B w0 M g s a w) {t u : TypeId} {x : Operand} {xa : XA} (ht : P.underlying t = some .string) (hu : P.underlying u = some .string) (hx : cA N x = some xa) (ho : o.op = .convert t u x) (hk : xop P (.toStr xa) K s) : HU P B w0 M g s K o a w := by
 have rx := BT h hx
 simp only [xop] at hk
 generalize ev s xa = px at rx hk
 generalize hv : a.eval x = v at rx
 split at hk
 · obtain rfl := T9 rx
   exact AU (v := _) (w' := w) (by simp only [execOp, ho, hv, convert, run_underlying ht, run_underlying hu, Sem.run_bind, Result.andThen_ok, Sem.run_pure]) (.plain h (.d (.str _)) hk)
 · exact hk.elim
theorem Ak4 {f : Field} {i : TypeInfo} (hi : P.info? f.type = some i) (h0 : 0 < i.size) (ad : Addr) (w : World) : (fieldPlace ad f).run P w = .ok (ad.add f.offset) w := by
 simp [fieldPlace, Ed hi, show i.size ≠ 0 by omega]
theorem BB8 (h : XRel P N B w0 M g s a w) {t : TypeId} {fields : Array Field} {f : Nat} {fl : Field} {i : TypeInfo} {x : Operand} {xa : XA} (ht : P.underlying t = some (.struct fields)) (hf : fields[f]? = some fl) (hi : P.info? fl.type = some i) (h0 : 0 < i.size)
   (hx : cA N x = some xa) (ho : o.op = .fieldAddr t x f) (hk : xop P (.fieldAddr fl.offset xa) K s) : HU P B w0 M g s K o a w := by
 have rx := BT h hx
 simp only [xop] at hk
 generalize ev s xa = px at rx hk
 generalize hv : a.eval x = v at rx
 split at hk
 · cases rx with
   | ptr hg =>
     rename_i x0 off0 b
     refine AU (v := .pointer (some ((⟨b, off0, none⟩ : Addr).add fl.offset))) (w' := w) (by simp [execOp, ho, hv, Instr.fieldAt, run_underlying ht, hf, Instr.sureAddr, Ak4 hi h0]) (.plain h ?_ hk)
     rw [show ∀ c k, (⟨b, c, none⟩ : Addr).add k = ⟨b, c + k, none⟩ from fun c k => by unfold Addr.add; split <;> simp_all]
     exact .ptr hg
 · cases rx with
   | dp ad cells val hm hr =>
     refine AU (v := .pointer (some (ad.add fl.offset))) (w' := w) (by simp [execOp, ho, hv, Instr.fieldAt, run_underlying ht, hf, Instr.sureAddr, Ak4 hi h0]) (.plain h ?_ hk)
     refine .dp _ _ (fun j => val (fl.offset + j)) (fun j d hj => ?_) (fun j d hj => ?_)
     · rw [Au5]; rw [List.getElem?_drop] at hj; exact hm _ d hj
     · rw [List.getElem?_drop] at hj; exact hr _ d hj
 · exact hk.elim
theorem Cd4 (h : XRel P N B w0 M g s a w) {t : TypeId} {fields : Array Field} {f : Nat} {fl : Field} {i : TypeInfo} {b : Bool} {x : Operand} {xa : XA} (ht : P.underlying t = some (.struct fields)) (hf : fields[f]? = some fl) (hi : P.info? fl.type = some i) (hb : Oj P fl.type = some b)
   (hx : cA N x = some xa) (ho : o.op = .field t x f) (hk : xop P (.field b fl.offset i.size xa) K s) : HU P B w0 M g s K o a w := by
 have rx := BT h hx
 simp only [xop] at hk
 generalize ev s xa = px at rx hk
 generalize hv : a.eval x = v at rx
 split at hk
 · rename_i cells
   cases rx with
   | agg vs _ hl hr =>
     have hrl : CK M g vs cells := ⟨hl, hr⟩
     cases b with
     | true =>
       simp only [if_true] at hk
       refine AU (v := .agg (vs.toArray.extract fl.offset (fl.offset + i.size))) (w' := w) (by simp [execOp, ho, hv, Instr.field, run_underlying ht, hf, asAgg, part, Am3 hb, Ed hi]) (.plain h ?_ hk.2)
       have hx := (hrl.drop fl.offset).take i.size
       have e : vs.toArray.extract fl.offset (fl.offset + i.size) = ((vs.drop fl.offset).take i.size).toArray := by
         apply Array.ext'
         simp [Array.toList_extract, List.extract]
       rw [e]
       exact .agg _ _ hx.1 hx.2
     | false =>
       simp only [Bool.false_eq_true, if_false] at hk
       cases hc : cells[fl.offset]? with
       | none => simp [hc] at hk
       | some p =>
         simp only [hc] at hk
         obtain ⟨u, hu, hru⟩ := hrl.get hc
         exact AU (v := u) (w' := w) (by simp [execOp, ho, hv, Instr.field, run_underlying ht, hf, asAgg, part, Am3 hb, hu]) (.plain h hru hk)
 · exact hk.elim
theorem BT5 (h : XRel P N B w0 M g s a w) {i : Nat} {x : Operand} {xa : XA} (hx : cA N x = some xa) (ho : o.op = .extract x i) (hk : xop P (.extract xa i) K s) : HU P B w0 M g s K o a w := by
 have rx := BT h hx
 simp only [xop] at hk
 generalize ev s xa = px at rx hk
 generalize hv : a.eval x = v at rx
 split at hk
 · rename_i ps
   cases rx with
   | tup vs _ hl hr =>
     cases hc : ps[i]? with
     | none => simp [hc] at hk
     | some p =>
       simp only [hc] at hk
       obtain ⟨u, hu, hru⟩ := (show CK M g vs ps from ⟨hl, hr⟩).get hc
       exact AU (v := u) (w' := w) (by simp [execOp, ho, hv, Instr.extract, hu]) (.plain h hru hk)
 · exact hk.elim
theorem Cg7 (h : XRel P N B w0 M g s a w) {f : FuncId} {first caps : Array Operand} {fa ca : List XA} (h1 : cAs N first.toList = some fa) (h2 : cAs N caps.toList = some ca) (ho : o.op = .makeFunc (.func f) first caps) (hk : xop P (.mkfn f fa ca) K s) : HU P B w0 M g s K o a w := by
 have r1 := Av1 h h1
 have r2 := Av1 h h2
 simp only [xop] at hk
 refine AU (v := .func (.func f) (first.map a.eval) (caps.map a.eval)) (w' := w) (by simp [execOp, ho, Instr.makeFunc]) (.plain h ?_ hk)
 have e1 : first.map a.eval = (first.toList.map a.eval).toArray := by apply Array.ext'; simp
 have e2 : caps.map a.eval = (caps.toList.map a.eval).toArray := by apply Array.ext'; simp
 rw [e1, e2]
 exact .fn f _ _ _ _ r1.1 r2.1 r1.2 r2.2
theorem BK8 (b : ByteArray) (n : Nat) (h : n < b.size) : b[n]? = some (b[n]'h) ∧ (((b[n]'h).toNat : Int) = YD b n) := by
 refine ⟨by simp [h], ?_⟩
 have hd : b.data[n]? = some (b[n]'h) := by
   rw [Array.getElem?_eq_getElem (show n < b.data.size from h)]
   rfl
 simp [YD, hd]
theorem BI8 (h : XRel P N B w0 M g s a w) {t : TypeId} {x y : Operand} {xa ya : XA} (ht : P.underlying t = some .string) (hx : cA N x = some xa) (hy : cA N y = some ya) (ho : o.op = .index t x y) (hk : xop P (.indexStr xa ya) K s) : HU P B w0 M g s K o a w := by
 have rx := BT h hx
 have ry := BT h hy
 simp only [xop] at hk
 generalize ev s xa = px at rx hk
 generalize ev s ya = py at ry hk
 generalize hvx : a.eval x = vx at rx
 generalize hvy : a.eval y = vy at ry
 split at hk
 · rename_i b k n
   obtain rfl := T9 rx
   obtain rfl := RD ry
   obtain ⟨h0, h1, hk⟩ := hk
   obtain ⟨e1, e2⟩ := BK8 b n.toNat (by omega)
   refine AU (v := .int .u8 (YD b n.toNat)) (w' := w) ?_ (.plain h (.d (.int _ _)) hk)
   simp [execOp, ho, hvx, hvy, Instr.index, asIntOf, run_underlying ht, h0, e1, e2]
 · exact hk.elim
theorem MO {c : Call} (h : o.op = .call c) {b : Builtin} (hc : c.callee = .builtin b) {v : Value} {w' : World} (hr : ∀ cs, (builtin b c.argTypes o.type cs (c.args.map a.eval)).run P w = .ok (.value v) w') : (execOp a.eval o).run P w = .ok (.value v) w' := by
 simp [execOp, h, resolve, hc, invoke, hr]
theorem As4 {α : Type} {xs : Array α} {l : List α} (h : xs.toList = l) : xs = l.toArray := by apply Array.ext'; simpa using h
theorem Cf3 (h : XRel P N B w0 M g s a w) {t : TypeId} {ts : List TypeId} {c : Call} {x : Operand} {xa : XA} (ht : P.underlying t = some .string) (hx : cA N x = some xa) (ho : o.op = .call c) (hc : c.callee = .builtin .len) (ha : c.args.toList = [x])
   (htt : c.argTypes.toList = t :: ts) (hk : xop P (.lenS xa) K s) : HU P B w0 M g s K o a w := by
 have rx := BT h hx
 simp only [xop] at hk
 have h0 : c.argTypes[0]? = some t := by rw [← Array.getElem?_toList, htt]; rfl
 split at hk
 · rename_i b hb
   rw [hb] at rx
   have hvs := T9 rx
   refine AU (v := .int .i64 b.size) (w' := w) (MO ho hc fun cs => ?_) (.plain h (.d (.int _ _)) hk)
   simp [builtin, As4 ha, Builtin.len_, h0, hvs, run_underlying ht, goInt]
 · exact hk.elim
theorem Ar9 {st : List Content} (h : SRel P B w0 M g st w) {v : Value} {p : PV} (hv : RepV M g v p) {rows : List (List D)} (hr : A4 st p = some rows) : ∃ ad cap, v = .slice ad rows.length cap ∧ rows.length ≤ cap := by
 cases hv with
 | d hd =>
   rename_i dd
   cases hd with
   | sl ad cap size rows' val hc hs hm hr' => simp [A4] at hr; subst hr; exact ⟨_, _, rfl, hc⟩
   | nil => simp [A4] at hr; subst hr; exact ⟨_, _, rfl, Nat.le_refl _⟩
   | _ => simp [A4] at hr
 | exnil => simp [A4] at hr; subst hr; exact ⟨_, _, rfl, Nat.le_refl _⟩
 | ex ad rows' hd => simp [A4] at hr; subst hr; exact ⟨_, _, rfl, Nat.le_refl _⟩
 | own hg h1 =>
   rename_i tt ver fl
   simp only [A4] at hr
   cases hst : st[tt]? with
   | none => simp [hst] at hr
   | some cc =>
     cases cc with
     | row e' ver' rows' =>
       simp only [hst] at hr
       split at hr
       case isFalse => cases hr
       rename_i hver
       subst hver
       simp at hr
       subst hr
       obtain ⟨v', fl', size', e1, e2, e3, e4⟩ := h.cont tt _ hst
       rw [hg] at e1
       cases e1
       rcases e4 with ⟨rfl, xs, h4, h5, h6⟩ | ⟨rfl, h5, ad, hv, h6⟩
       · rcases h4.2 with ⟨rfl, hn⟩ | ⟨b, cap, cur, rfl, hB, hh, hcap, hmax, hsz, htk⟩
         · exact ⟨_, _, by rw [hn], by omega⟩
         · exact ⟨_, _, rfl, hcap⟩
       · exact ⟨_, _, hv, Nat.le_refl _⟩
     | dead => simp [hst] at hr
     | fresh => simp [hst] at hr
     | box _ => simp [hst] at hr
     | map _ _ _ => simp [hst] at hr
 | _ => simp [A4] at hr
theorem Cf6 (h : XRel P N B w0 M g s a w) {t e : TypeId} {ts : List TypeId} {c : Call} {x : Operand} {xa : XA} (ht : P.underlying t = some (.slice e)) (hx : cA N x = some xa) (ho : o.op = .call c) (hc : c.callee = .builtin .len) (ha : c.args.toList = [x])
   (htt : c.argTypes.toList = t :: ts) (hk : xop P (.lenR xa) K s) : HU P B w0 M g s K o a w := by
 have rx := BT h hx
 simp only [xop] at hk
 have h0 : c.argTypes[0]? = some t := by rw [← Array.getElem?_toList, htt]; rfl
 split at hk
 · rename_i rows hr
   obtain ⟨ad, cap, hv, _⟩ := Ar9 h.st rx hr
   refine AU (v := .int .i64 rows.length) (w' := w) (MO ho hc fun cs => ?_) (.plain h (.d (.int _ _)) hk)
   simp [builtin, As4 ha, Builtin.len_, h0, hv, run_underlying ht, goInt]
 · exact hk.elim
end
end Go.Ax
