import Derived.Test.YtojkpenjeglipaaGreatTAxVi
import Derived.Maps.OwnSet
set_option linter.unusedVariables false
namespace Go.Ax
open Go.RowKit
theorem SRel.grow {P : Program} {B : Nat} {w0 : World} {M : Mem} {g : Nam} {st : List Content} {w w' : World} (h : SRel P B w0 M g st w) (hb : Below w.heap.size w w') {M' : Mem} (hle : MLe M M')
   (hmem : ∀ a v, M' a = some v → w.heap.size ≤ a.block → w'.cell? a = some v) (hold : ∀ a, a.block < w.heap.size → M' a = M a) : SRel P B w0 M' g st w' := by
 refine ⟨h.below.trans (hb.mono h.hB), Nat.le_trans h.hB hb.size, fun a v e => ?_, fun x c e => ?_, h.dom, h.sep⟩
 · by_cases ha : a.block < w.heap.size
   · rw [hold a ha] at e
     rw [World.cell?_of_block (hb.block _ ha)]
     exact h.mem a v e
   · exact hmem a v e (by omega)
 · exact (h.cont x c e).keep hle (NLe.refl st.length _) h.dom (fun _ => rfl) (fun b hbk => hb.block b (Ic (h.cont x c e) hbk).2) (fun b hbk a ha => hold a (by have := (Ic (h.cont x c e) hbk).2; omega))
section
variable {P : Program} {N B : Nat} {w0 : World} {M : Mem} {g : Nam} {s : XS} {a : Act} {w : World} {K : PV → List Content → Prop} {o : Oper}
theorem Ca7 {st : List Content} (h : SRel P B w0 M g st w) {v : Value} {p : PV} (hv : RepV M g v p) {rows : List (List D)} (hr : A4 st p = some rows) : ∃ base cap, v = .slice base rows.length cap ∧ (base = none → rows = [] ∧ cap = 0) := by
 have ofD : ∀ {v : Value} {rows : List (List D)}, RepD M v (.sl rows) → ∃ base cap, v = .slice base rows.length cap ∧ (base = none → rows = [] ∧ cap = 0) := fun hd => by
   cases hd with
   | nil => exact ⟨none, 0, rfl, fun _ => ⟨rfl, rfl⟩⟩
   | sl a cap size rows val hc hs hm hr => exact ⟨some a, cap, rfl, fun e => by cases e⟩
 cases hv with
 | d hd =>
   rename_i x
   cases x with
   | sl r => simp [A4] at hr; subst hr; exact ofD hd
   | _ => simp [A4] at hr
 | exnil => simp [A4] at hr; subst hr; exact ⟨none, 0, rfl, fun _ => ⟨rfl, rfl⟩⟩
 | ex a r hd => simp [A4] at hr; subst hr; exact ofD hd
 | own hg h1 =>
   rename_i t ver fl
   simp only [A4] at hr
   cases ht : st[t]? with
   | none => simp [ht] at hr
   | some c =>
     cases c with
     | row e ver' rows' =>
       simp only [ht] at hr
       split at hr
       case isFalse => cases hr
       rename_i hver
       subst hver
       simp at hr
       subst hr
       obtain ⟨v', fl', size', e1, e2, e3, e4⟩ := h.cont t _ ht
       rw [hg] at e1
       cases e1
       rcases e4 with ⟨rfl, xs, h4, h5, h6⟩ | ⟨rfl, h5, a, rfl, h6⟩
       · rcases h4.2 with ⟨rfl, hn⟩ | ⟨b, cap, cur, rfl, hB, hh, hcap, hmax, hsz, htk⟩
         · exact ⟨none, 0, by rw [hn], fun _ => ⟨List.eq_nil_of_length_eq_zero hn, rfl⟩⟩
         · exact ⟨_, cap, rfl, fun e => by cases e⟩
       · exact ⟨_, _, rfl, fun e => by cases e⟩
     | dead => simp [ht] at hr
     | fresh => simp [ht] at hr
     | box _ => simp [ht] at hr
     | map _ _ _ => simp [ht] at hr
 | _ => simp [A4] at hr
theorem An6 {P : Program} {t e : TypeId} (ht : P.underlying t = some (.slice e)) (base : Option Addr) (n cap : Nat) (w : World) : (Op.equal t (.slice base n cap) (.slice none 0 0)).run P w = .ok base.isNone w := by
 show (Op.equalIn (9999 + 1) t (.slice base n cap) (.slice none 0 0)).run P w = _
 unfold Op.equalIn
 simp only [Sem.run_bind, run_underlying ht, Result.andThen_ok]
 cases base <;> rfl
theorem BP8 (h : XRel P N B w0 M g s a w) {op : BinOp} {neg : Bool} {t t' e : TypeId} {x y : Operand} {xa : XA} (ht : P.underlying t = some (.slice e)) (hx : cA N x = some xa) (hy : cA N y = some (.c (.ex []))) (ho : o.op = .binOp op t x y t')
   (hop : (op = .eql ∧ neg = false) ∨ (op = .neq ∧ neg = true)) (hk : xop P (.eqNil neg xa) K s) : HU P B w0 M g s K o a w := by
 have rx := BT h hx
 have hvy : a.eval y = .slice none 0 0 := by
   cases y with
   | tmp t => simp only [cA] at hy; split at hy <;> cases hy
   | const v =>
     simp only [cA] at hy
     cases hc : cPV v with
     | none => simp [hc] at hy
     | some p =>
       simp [hc] at hy
       subst hy
       unfold cPV at hc
       split at hc <;> cases hc
       rfl
   | func f => simp only [cA] at hy; cases hy
   | global g => simp [cA] at hy
 simp only [xop] at hk
 generalize hvx : a.eval x = vx at rx
 split at hk
 · rename_i rows hr
   obtain ⟨base, cap, rfl, hn⟩ := Ca7 h.st rx hr
   have hg := Ue (P := P) op t x y (.slice base rows.length cap) (.slice none 0 0) w ⟨by simp, by simp⟩
   have he := An6 (P := P) ht base rows.length cap w
   have hK : K (.d (.bool (if neg then !base.isNone else base.isNone))) s.st := by
     cases base with
     | none =>
       have := hk.1 (hn rfl).1
       cases neg <;> simpa using this
     | some b =>
       have := hk.2
       cases neg <;> simpa using this
   rcases hop with ⟨rfl, rfl⟩ | ⟨rfl, rfl⟩
   · exact AU (v := .bool base.isNone) (w' := w) (by simp [execOp, ho, hvx, hvy, hg, binOp, he]) (.plain h (.d (.bool _)) (by simpa using hK))
   · exact AU (v := .bool (!base.isNone)) (w' := w) (by simp [execOp, ho, hvx, hvy, hg, binOp, he]) (.plain h (.d (.bool _)) (by simpa using hK))
 · exact hk.elim
theorem BE8 (w : World) (e : TypeId) (s : ByteArray) : Below w.heap.size w (Lib.bytesWorld w e s) :=
 ⟨rfl, rfl, rfl, by rw [Lib.bytesWorld_size]; omega, fun j hj => Lib.bytesWorld_at_old w e s j hj⟩
theorem SRel.bytes {st : List Content} (h : SRel P B w0 M g st w) (e : TypeId) (b : ByteArray) (cap : Nat) (hcap : b.size ≤ cap) :
   ∃ M', MLe M M' ∧ SRel P B w0 M' g st (Lib.bytesWorld w e b) ∧ RepD M' (.slice (some ⟨w.heap.size, 0, none⟩) b.size cap) (.sl (FL b)) := by
 let M' : Mem := fun a => if a.block = w.heap.size ∧ a.off < b.size ∧ a.spot = none then (Lib.bytesWorld w e b).cell? a else M a
 have hold : ∀ a : Addr, a.block < w.heap.size → M' a = M a := fun a ha => by
   show (if a.block = w.heap.size ∧ a.off < b.size ∧ a.spot = none then _ else _) = _
   rw [if_neg (fun hh => by omega)]
 have hle : MLe M M' := fun a v hv => by rw [hold a (PN h hv)]; exact hv
 refine ⟨M', hle, h.grow (BE8 w e b) hle (fun a v hv ha => ?_) hold, ?_⟩
 · have hv' : (if a.block = w.heap.size ∧ a.off < b.size ∧ a.spot = none then (Lib.bytesWorld w e b).cell? a else M a) = some v := hv
   split at hv'
   · exact hv'
   · have := PN h hv'; omega
 · have hlen : (FL b).length = b.size := by rw [FL, List.length_map, Array.length_toList]; rfl
   rw [← hlen]
   refine .sl _ cap 1 (FL b) (fun i j => .int .u8 (b.data.toList.getD i 0).toNat) (by omega) (fun i row hr => ?_) (fun i row j d hr hj => ?_) (fun i row j d hr hj => ?_)
   · simp only [FL, List.getElem?_map] at hr
     cases hh : b.data.toList[i]? with
     | none => rw [hh] at hr; cases hr
     | some u => rw [hh] at hr; cases hr; rfl
   · have hi : i < b.size := by rw [← hlen]; exact (List.getElem?_eq_some_iff.1 hr).1
     have hj0 : j = 0 := by
       simp only [FL, List.getElem?_map] at hr
       cases hh : b.data.toList[i]? with
       | none => rw [hh] at hr; cases hr
       | some u =>
         rw [hh] at hr; cases hr
         cases j with
         | zero => rfl
         | succ j => simp at hj
     subst hj0
     rw [WP]
     show (if w.heap.size = w.heap.size ∧ i * 1 + 0 < b.size ∧ (none : Option Nat) = none then (Lib.bytesWorld w e b).cell? ⟨w.heap.size, i * 1 + 0, none⟩ else _) = _
     rw [if_pos ⟨rfl, by omega, rfl⟩, show i * 1 + 0 = i by omega, Lib.bytesWorld_cell w e b i hi]
   · simp only [FL, List.getElem?_map] at hr
     cases hh : b.data.toList[i]? with
     | none => rw [hh] at hr; cases hr
     | some u =>
       rw [hh] at hr; cases hr
       cases j with
       | zero =>
         simp at hj
         subst hj
         rw [List.getD_eq_getElem?_getD, hh]
         exact .int _ _
       | succ j => simp at hj
theorem BS7 (h : XRel P N B w0 M g s a w) {t u e : TypeId} {x : Operand} {xa : XA} (ht : P.underlying t = some .string) (hu : P.underlying u = some (.slice e)) (he : P.underlying e = some (.int .u8)) (hx : cA N x = some xa) (ho : o.op = .convert t u x) (hk : xop P (.toBytes xa) K s) : HU P B w0 M g s K o a w := by
 have rx := BT h hx
 simp only [xop] at hk
 generalize ev s xa = px at rx hk
 generalize hv : a.eval x = v at rx
 split at hk
 · rename_i b
   obtain rfl := T9 rx
   obtain ⟨M', m1, m2, m3⟩ := h.st.bytes e b (grownCap w b.size 0 e) (grownCap_ge w b.size 0 e)
   refine AU (w' := Lib.bytesWorld w e b) (v := .slice (some ⟨w.heap.size, 0, none⟩) b.size (grownCap w b.size 0 e)) (by
     have hr := Lib.run_convert_string_bytes (P := P) w t u e b ht hu he
     simp only [execOp, ho, hv]
     rw [Sem.run_bind, hr]
     rfl) ⟨_, s.st, M', g, m1, NLe.refl _ g, Nat.le_refl _, m2, .d m3, hk⟩
 · exact hk.elim
theorem Cd8 (h : XRel P N B w0 M g s a w) {t k e : TypeId} (hk0 : P.underlying k = some .string) (ho : o.op = .makeMap t none) (hk : xop P (.mkMap k e) K s) : HU P B w0 M g s K o a w := by
 simp only [xop] at hk
 refine AU (v := .map (some w.heap.size)) (w' := w.alloc (.map #[] 0)) (by simp [execOp, ho, run_makeMap]) ?_
 refine ⟨_, _, M, g.put s.st.length 0 (.map (some w.heap.size), true), MLe.refl M, NLe.put g _ _ _, by simp, ?_, .map (by simp [Nam.put]), hk⟩
 refine h.st.push (World.grownBy_alloc w _ none) 0 _ (.map k e []) ?_ (fun b hb => by simp [Bl, Nam.put] at hb; omega)
 exact ⟨w.heap.size, .map [], by simp [Nam.put], h.st.hB, World.ownsMap_made w P k _, hk0, fun s => by simp [Maps.has]⟩
theorem Ca0 (h : XRel P N B w0 M g s a w) {t k e : TypeId} {m x y : Operand} {ma xa ya : XA} (ht : P.underlying t = some (.map k e)) (he : P.underlying e = some .bool) (hm : cA N m = some ma) (hx : cA N x = some xa) (hy : cA N y = some ya) (ho : o.op = .mapUpdate t m x y) (hk : xop P (.mapSet k e ma xa ya) K s) : HU P B w0 M g s K o a w := by
 have rm := BT h hm
 have rx := BT h hx
 have ry := BT h hy
 simp only [xop] at hk
 generalize ev s ma = pm at rm hk
 generalize ev s xa = px at rx hk
 generalize ev s ya = py at ry hk
 generalize hvm : a.eval m = vm at rm
 generalize hvx : a.eval x = vx at rx
 generalize hvy : a.eval y = vy at ry
 split at hk
 · rename_i tk b vb
   split at hk
   · rename_i k' e' ks hst
     obtain ⟨q1, q2, hb, hks, hk⟩ := hk
     subst q1
     subst q2
     obtain rfl := T9 rx
     obtain rfl := V9 ry
     cases rm with
     | map hg =>
       rename_i bl
       obtain ⟨b', D, c1, c2, c3, c4, c5⟩ := h.st.cont tk _ hst
       rw [hg] at c1
       simp at c1
       subst c1
       obtain ⟨w', hrun, hown, hgr⟩ := c3.update (Maps.string_keyed c4) ht (by simp only [maxLen]; omega) (WideMaps.keyOf_string_mk c4 (by simp only [maxLen]; omega)) (plainElem_bool he vb)
       have hbl : Bl g tk (.map k' e' ks) = some bl := by simp [Bl, hg]
       have hmp := c3.isMap
       have hw := h.st.write (g' := g) hst (w' := w') (c' := .map k' e' (ks ++ [b])) (by rw [hbl]; exact hgr) (fun _ _ _ => rfl) (fun _ _ e => e) (fun ad u hme hbk => by
           rw [hbl] at hbk
           have hbk' : ad.block = bl := by simpa using hbk
           have := h.st.mem ad u hme
           obtain ⟨es, clock, hh, _⟩ := c3
           simp [World.cell?, hbk', hh] at this)
         ⟨bl, _, hg, c2, by rw [List.length_append]; exact hown, c4, fun s' => by
           by_cases hs : s' = b
           · subst hs
             simp [Maps.has_put_same hmp (k := .string s'.data.toList) (by simp [WideAt.IsKeyLit])]
           · have hne : (Lit.string s'.data.toList) ≠ .string b.data.toList := fun hh => hs (by
               have : s'.data = b.data := by apply Array.ext'; simpa using hh
               cases s'; cases b; simp_all)
             rw [Maps.has_put_other hne, c5 s']
             simp [hs]⟩
         (fun b2 h2 => by left; rw [hbl]; simpa [Bl, hg] using h2)
       refine ⟨.skip, undef, w', ?_, .inr ⟨rfl, rfl⟩, ⟨_, _, M, g, MLe.refl M, NLe.refl _ g, by simp, hw.1, .tup [] [] rfl (fun i v p h => by simp at h), hk⟩⟩
       simp [execOp, ho, hvm, hvx, hvy, hrun]
   · exact hk.elim
 · exact hk.elim
end
end Go.Ax
