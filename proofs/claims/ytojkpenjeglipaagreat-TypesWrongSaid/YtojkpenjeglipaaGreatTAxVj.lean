import Derived.Test.YtojkpenjeglipaaGreatTAxVo
set_option linter.unusedVariables false
namespace Go.Ax
open Go.RowKit
section
variable {P : Program} {N B : Nat} {w0 : World} {M : Mem} {g : Nam} {s : XS} {a : Act} {w : World} {K : PV → List Content → Prop} {o : Oper}
theorem BB5 (h : SRel P B w0 M g s.st w) {vs : List Value} {as : List XA} (hr : CK M g vs (as.map (ev s))) : ∃ M', MLe M M' ∧ SRel P B w0 M' g s.st w ∧ CK M' g vs (as.map (fun x => Dh s.st (ev s x))) := by
 obtain ⟨M', a1, a2, a3⟩ := SRel.frz_list (Dh s.st) (fun M v p hs hr => hs.frzA_ok hr) vs _ M h hr
 rw [List.map_map] at a3
 exact ⟨M', a1, a2, a3⟩
theorem AW8 {f : FuncId} {args : List PV} {vs : List Value} {M' : Mem} (hM : MLe M M') (hs : SRel P B w0 M' g s.st w) (hr : CK M' g vs args) (hk : Aw P f args s.st K) (hrun : (execOp a.eval o).run P w = (callFunc f vs.toArray).run P w)
   {next : Act → World → Prop} {Q : Exit → Act → World → Prop} (hnext : ∀ v w', After P B w0 M g s K v w' → next (a.put o.dst v) w') : o.wp P a w next Q := by
 unfold Oper.wp
 rw [hrun, hk.1 vs.toArray w, Oper.upon_enter]
 refine (hk.2 B w0 M' g w vs hs hr).mono fun e w' ⟨v, p, st', M2, g', a1, a2, a3, a4, a5, a6, a7⟩ => ?_
 subst a1
 exact hnext v w' ⟨p, st', M2, g', hM.trans a2, a3, a4, a5, a6, a7⟩
theorem BI2 (h : HU P B w0 M g s K o a w) {next : Act → World → Prop} {Q : Exit → Act → World → Prop} (hnext : ∀ v w', After P B w0 M g s K v w' → next (a.put o.dst v) w') : o.wp P a w next Q := by
 obtain ⟨nx, v, w', hr, hnx, haf⟩ := h
 unfold Oper.wp
 rw [hr]
 rcases hnx with rfl | ⟨rfl, rfl⟩
 · exact hnext v w' haf
 · exact hnext undef w' haf
theorem op_sound (h : XRel P N B w0 M g s a w) {x : XOp} (hc : cOp P N o = some x) (hk : xop P x K s) {next : Act → World → Prop} {Q : Exit → Act → World → Prop} (hnext : ∀ v w', After P B w0 M g s K v w' → next (a.put o.dst v) w') : o.wp P a w next Q := by
 have fin : HU P B w0 M g s K o a w → o.wp P a w next Q := fun hd => BI2 hd hnext
 by_cases hbad : x = .bad
 · subst hbad; exact hk.elim
 replace hc := AE2 hc hbad
 clear hbad
 cases ho : o.op with
 | move x =>
   simp only [GK, ho] at hc
   cases e1 : cA N x <;> simp [e1] at hc; subst hc
   exact fin (BX6 h e1 (.inl ho) hk)
 | assign x =>
   simp only [GK, ho] at hc
   cases e1 : cA N x <;> simp [e1] at hc; subst hc
   exact fin (BX6 h e1 (.inr ho) hk)
 | pick c x y =>
   simp only [GK, ho] at hc
   cases e1 : cA N c <;> cases e2 : cA N x <;> cases e3 : cA N y <;> simp [e1, e2, e3] at hc
   subst hc
   exact fin (Cf7 h e1 e2 e3 ho hk)
 | box t x =>
   simp only [GK, ho] at hc
   cases e1 : cA N x <;> simp [e1] at hc; subst hc
   exact fin (Cj0 h e1 ho hk)
 | alloc t =>
   simp only [GK, ho] at hc
   cases e1 : P.info? t with
   | none => simp [e1] at hc
   | some i =>
     simp only [e1] at hc
     cases e2 : i.zero with
     | none => simp [e2] at hc
     | some z =>
       simp only [e2] at hc
       cases e3 : Al4 z <;> simp [e3] at hc; subst hc
       exact fin (Cc7 h e1 e2 e3 ho hk)
 | build t parts =>
   simp only [GK, ho] at hc
   cases e1 : P.info? t with
   | none => simp [e1] at hc
   | some i =>
     simp only [e1] at hc
     split at hc
     · rename_i fields hii e2
       cases hii
       cases e3 : i.zero with
       | none => simp [e3] at hc
       | some z =>
         simp only [e3] at hc
         cases e4 : Al4 z with
         | none => simp [e4] at hc
         | some zs => cases e5 : Uh P fields.toList with
           | none => simp [e4, e5] at hc
           | some places =>
             simp only [e4, e5] at hc
             cases e6 : Aj8 N places parts.toList <;> simp [e6] at hc; subst hc
             exact fin (Cc3 h e1 e2 e3 e4 e5 e6 ho hk)
     · cases hc
 | buildSlice t len parts =>
   simp only [GK, ho] at hc
   split at hc
   · rename_i e e1
     cases e2 : P.info? e with
     | none => simp [e2] at hc
     | some i =>
       simp only [e2] at hc
       cases e3 : i.zero with
       | none => simp [e3] at hc
       | some z =>
         simp only [e3] at hc
         cases e4 : ON N 0 parts.toList with
         | none => simp [e4] at hc
         | some ps =>
           simp only [e4] at hc
           split at hc
           · rename_i hcond
             simp at hc; subst hc
             exact fin (Bu8 h e1 e2 e3 hcond.2.2.1 hcond.2.1 e4 hcond.1 hcond.2.2.2 ho hk)
           · cases hc
   · cases hc
 | load t x =>
   simp only [GK, ho] at hc
   cases e1 : P.info? t <;> cases e2 : Oj P t <;> cases e3 : cA N x <;> simp [e1, e2, e3] at hc
   obtain ⟨hcond, rfl⟩ := hc
   exact fin (Cg2 h e1 e2 e3 ho hk)
 | store t x y =>
   simp only [GK, ho] at hc
   cases e1 : P.info? t <;> cases e2 : cA N x <;> cases e3 : cA N y <;> simp [e1, e2, e3] at hc
   subst hc
   exact fin (Cc4 h e1 e2 e3 ho hk)
 | nilCheck x =>
   simp only [GK, ho] at hc
   cases e1 : cA N x <;> simp [e1] at hc; subst hc
   exact fin (BL7 h e1 ho hk)
 | binOp op t x y t' =>
   simp only [GK, ho] at hc
   cases e1 : cA N x with
   | none => rw [e1] at hc; split at hc <;> simp_all
   | some xa => cases e2 : cA N y with
     | none => rw [e1, e2] at hc; split at hc <;> simp_all
     | some ya =>
       rw [e1, e2] at hc
       split at hc
       · rename_i q1 q2; cases q1; cases q2; cases hc; exact fin (Ce9 h e1 e2 ho hk)
       · rename_i q1 q2; cases q1; cases q2; cases hc; exact fin (Ce9 h e1 e2 ho hk)
       · rename_i q0 q1 q2
         cases q1; cases q2
         split at hc
         · cases hc; exact fin (BF9 h q0 e1 e2 ho (.inl ⟨rfl, rfl⟩) hk)
         · cases hc; exact fin (BF9 h q0 e1 e2 ho (.inr ⟨rfl, rfl⟩) hk)
         · cases hc
       · rename_i q0 q1 q2
         cases q1; cases q2
         split at hc
         · cases hc; exact fin (BP8 h q0 e1 e2 ho (.inl ⟨rfl, rfl⟩) hk)
         · cases hc; exact fin (BP8 h q0 e1 e2 ho (.inr ⟨rfl, rfl⟩) hk)
         · cases hc
       · cases hc
 | unOp op t x =>
   simp only [GK, ho] at hc
   cases e1 : cA N x with
   | none => rw [e1] at hc; split at hc <;> simp_all
   | some xa =>
     rw [e1] at hc
     split at hc
     · rename_i q; cases q; cases hc; exact fin (Ci5 h e1 ho hk)
     · rename_i q; cases q; cases hc; exact fin (Ci9 h e1 ho hk)
     · cases hc
 | convert t u x =>
   simp only [GK, ho] at hc
   cases e1 : cA N x with
   | none => rw [e1] at hc; split at hc <;> simp_all
   | some xa =>
     rw [e1] at hc
     split at hc
     · rename_i q1 q2 q3; cases q3; cases hc; exact fin (Ce2 h q1 q2 e1 ho hk)
     · rename_i q1 q2 q3; cases q3; cases hc; exact fin (Cc1 h q1 q2 e1 ho hk)
     · rename_i q1 q2 q3; cases q3
       split at hc
       · rename_i q4; cases hc; exact fin (BS7 h q1 q2 q4 e1 ho hk)
       · cases hc
     · cases hc
 | makeMap t r =>
   cases r with
   | some r => simp [GK, ho] at hc
   | none =>
     simp only [GK, ho] at hc
     split at hc
     · split at hc
       · rename_i q1 q2; cases hc; exact fin (Cd8 h q1 ho hk)
       · cases hc
     · cases hc
 | mapUpdate t m x y =>
   simp only [GK, ho] at hc
   split at hc
   · rename_i q0
     split at hc
     · rename_i q1 q2 q3 q4 q5; cases hc; exact fin (Ca0 h q0 q2 q3 q4 q5 ho hk)
     · cases hc
   · cases hc
 | fieldAddr t x f =>
   simp only [GK, ho] at hc
   split at hc
   · rename_i fields xa e1 e2
     cases e3 : fields[f]? with
     | none => simp [e3] at hc
     | some fl =>
       simp only [e3] at hc
       cases e4 : P.info? fl.type with
       | none => simp [e4] at hc
       | some i =>
         simp only [e4] at hc
         split at hc
         · rename_i hcond; cases hc; exact fin (BB8 h e1 e3 e4 hcond e2 ho hk)
         · cases hc
   · cases hc
 | field t x f =>
   simp only [GK, ho] at hc
   split at hc
   · rename_i fields xa e1 e2
     cases e3 : fields[f]? with
     | none => simp [e3] at hc
     | some fl =>
       simp only [e3] at hc
       cases e4 : P.info? fl.type <;> cases e5 : Oj P fl.type <;> simp [e4, e5] at hc
       obtain ⟨_, rfl⟩ := hc
       exact fin (Cd4 h e1 e3 e4 e5 e2 ho hk)
   · cases hc
 | indexAddr t x i =>
   simp only [GK, ho] at hc
   split at hc
   · rename_i e xa ia e1 e2 e3
     cases e4 : P.info? e with
     | none => simp [e4] at hc
     | some j =>
       simp only [e4] at hc
       split at hc
       · rename_i hcond; cases hc; exact fin (BA0 h e1 e4 hcond e2 e3 ho hk)
       · cases hc
   · cases hc
 | index t x i =>
   simp only [GK, ho] at hc
   split at hc
   · rename_i xa ia e1 e2 e3
     cases hc; exact fin (BI8 h e1 e2 e3 ho hk)
   · cases hc
 | slice t x lo hi mx =>
   simp only [GK, ho] at hc
   split at hc
   · rename_i xa la ha e1 e2 e3 e4 e5
     cases hc
     have hmx : mx = none := by
       cases mx with
       | none => rfl
       | some q => simp only [cAo] at e5; cases e' : cA N q <;> simp [e'] at e5
     subst hmx
     exact fin (Cb0 h e1 e2 e3 e4 ho hk)
   · rename_i e xa la ha ma e1 e2 e3 e4 e5
     cases e6 : P.info? e with
     | none => simp [e6] at hc
     | some j =>
       simp only [e6] at hc
       split at hc
       · cases hc; exact fin (BX1 h e1 e6 e2 e3 e4 e5 ho hk)
       · cases hc
   · cases hc
 | extract x i =>
   simp only [GK, ho] at hc
   cases e1 : cA N x <;> simp [e1] at hc; subst hc
   exact fin (BT5 h e1 ho hk)
 | makeFunc fn first caps =>
   cases fn with
   | func f =>
     simp only [GK, ho] at hc
     cases e1 : cAs N first.toList <;> cases e2 : cAs N caps.toList <;> simp [e1, e2] at hc
     subst hc
     exact fin (Cg7 h e1 e2 ho hk)
   | _ => simp [GK, ho] at hc
 | call c =>
   simp only [GK, ho] at hc
   split at hc
   · -- a function by its name
     rename_i f hcal
     cases e1 : cAs N c.args.toList <;> simp [e1] at hc; subst hc
     simp only [xop] at hk
     obtain ⟨M', a1, a2, a3⟩ := BB5 h.st (Av1 h e1)
     refine AW8 a1 a2 a3 hk ?_ hnext
     have harr : (c.args.toList.map a.eval).toArray = c.args.map a.eval := by apply Array.ext'; simp
     rw [harr]
     simp [execOp, ho, resolve, hcal, Deferred.ofValue, invoke, Act.eval]
   · -- a function value
     rename_i x hne hcal
     cases e1 : cA N x with
     | none => simp [e1] at hc
     | some xa => cases e2 : cAs N c.args.toList with
       | none => simp [e1, e2] at hc
       | some as =>
         simp [e1, e2] at hc
         subst hc
         simp only [xop] at hk
         split at hk
         · rename_i f ps qs hev
           have rx := BT h e1
           rw [hev] at rx
           obtain ⟨M', a1, a2, a3⟩ := BB5 h.st (Av1 h e2)
           generalize hvx : a.eval x = vx at rx
           cases rx with
           | fn _ vs us _ _ hl hk' hv hu =>
             have r1 : CK M' g vs ps := (show CK M g vs ps from ⟨hl, hv⟩).mono a1 (NLe.refl s.st.length g) h.st.dom
             have r2 : CK M' g us qs := (show CK M g us qs from ⟨hk', hu⟩).mono a1 (NLe.refl s.st.length g) h.st.dom
             refine AW8 a1 a2 ((r1.append a3).append r2) hk ?_ hnext
             have harr : (vs ++ c.args.toList.map a.eval ++ us).toArray = vs.toArray ++ c.args.map a.eval ++ us.toArray := by apply Array.ext'; simp
             rw [harr]
             simp only [execOp, ho, resolve, hcal, hvx, Deferred.ofValue, Sem.run_bind, Sem.run_pure, Result.andThen_ok, invoke]
         · exact hk.elim
   · -- len
     rename_i hcal
     split at hc
     · rename_i x t ts e1 e2
       split at hc
       · rename_i xa q1 q2; cases hc; exact fin (Cf3 h q1 q2 ho hcal e1 e2 hk)
       · rename_i e xa q1 q2; cases hc; exact fin (Cf6 h q1 q2 ho hcal e1 e2 hk)
       · cases hc
     · cases hc
   · rename_i hcal
     split at hc
     · rename_i xa as e1; cases hc; exact fin (Bx8 h (mx := false) e1 ho hcal hk)
     · cases hc
   · rename_i hcal
     split at hc
     · rename_i xa as e1; cases hc; exact fin (Bx8 h (mx := true) e1 ho hcal hk)
     · cases hc
   · rename_i hcal
     split at hc
     · rename_i x y t u e1 e2
       split at hc
       · rename_i e xa ya q1 q2 q3
         cases e4 : P.info? e with
         | none => simp [e4] at hc
         | some i =>
           simp only [e4] at hc
           cases e5 : i.zero with
           | none => simp [e5] at hc
           | some z =>
             simp only [e5] at hc
             split at hc
             · rename_i hcond
               obtain ⟨rfl, c1, c2, c3⟩ := hcond
               cases hc
               exact fin (BV8 h q1 e4 e5 c1 c2 c3 q2 q3 ho hcal e1 e2 hk)
             · cases hc
       · cases hc
     · cases hc
   · cases hc
 | _ => simp [GK, ho] at hc
theorem Am6 {M' : Mem} {g' : Nam} {st' : List Content} {w' : World} {dst : Option Nat} {v : Value} {p : PV} (h : XRel P N B w0 M g s a w) (hM : MLe M M') (hN : NLe s.st.length g g') (hst : SRel P B w0 M' g' st' w') (hv : RepV M' g' v p) (hd : ∀ d, dst = some d → d < N) :
   XRel P N B w0 M' g' (s.put dst p st') (a.put dst v) w' := by
 cases dst with
 | none => exact ⟨h.size, fun i => (h.slots i).mono hM hN h.st.dom, h.defers, hst⟩
 | some d =>
   have hdn := hd d rfl
   refine ⟨by simp [Act.put, h.size], fun i => ?_, h.defers, hst⟩
   show RepV M' g' ((a.tmps.setIfInBounds d v).getD i undef) (upd s.r d p i)
   simp only [upd]
   by_cases hi : i = d
   · subst hi
     rw [if_pos rfl]
     have : (a.tmps.setIfInBounds i v).getD i undef = v := by simp [Array.getD, h.size, hdn]
     rw [this]
     exact hv
   · rw [if_neg hi]
     have : (a.tmps.setIfInBounds d v).getD i undef = a.tmps.getD i undef := by
       simp only [Array.getD_eq_getD_getElem?]
       rw [Array.getElem?_setIfInBounds_ne (by omega)]
     rw [this]
     exact (h.slots i).mono hM hN h.st.dom
theorem At0 (h : XRel P N B w0 M g s a w) {ops : Array Oper} {j t : Nat} (hj : (ops[j]?).bind (·.dst) = some t) (ht : t < N) :
   (∀ b, s.r t = .d (.bool b) → yielded ops a.tmps j = some b) ∧ (s.r t = .tup [] → yielded ops a.tmps j = none) := by
 have hlt : t < a.tmps.size := by rw [h.size]; exact ht
 have hget : a.tmps[t]? = some (a.tmps.getD t undef) := by simp [Array.getD, hlt]
 have hs := h.slots t
 refine ⟨fun b e => ?_, fun e => ?_⟩
 · rw [e] at hs
   have := V9 hs
   simp [yielded, hj, hget, this]
 · rw [e] at hs
   generalize hv : a.tmps.getD t undef = v at hs hget
   cases hs with
   | tup vs _ hl hr =>
     have : vs = [] := List.eq_nil_of_length_eq_zero hl
     subst this
     simp [yielded, hj, hget]
end
end Go.Ax
