import Derived.Test.YtojkpenjeglipaaGreatTAxVq
set_option linter.unusedVariables false
namespace Go.Ax
open Go.RowKit
section
variable {P : Program} {N B : Nat} {w0 : World} {M : Mem} {g : Nam} {s : XS} {a : Act} {w : World}
theorem AQ4 {ops : Array Oper} {n : Nat} {Kx : XS → Prop} {Q : Exit → Act → World → Prop} : ∀ (l : List Oper) (is : List XI) (M : Mem) (g : Nam) (s : XS) (a : Act) (w : World), cIs P N ops l = some is → n ≤ s.st.length → XRel P N B w0 M g s a w → FA P is Kx s →
   (∀ s' M' g' a' w', MLe M M' → NLe n g g' → n ≤ s'.st.length → XRel P N B w0 M' g' s' a' w' → Kx s' → Q .normal a' w') → wpList P ops Q l a w
 | [], is, M, g, s, a, w, hc, hn, h, hk, hq => by
   simp [cIs] at hc
   subst hc
   exact hq s M g a w (MLe.refl M) (NLe.refl n g) hn h hk
 | o :: r, is, M, g, s, a, w, hc, hn, h, hk, hq => by
   simp only [cIs] at hc
   cases e1 : cI P N ops o with
   | none => simp [e1] at hc
   | some i => cases e2 : cIs P N ops r with
     | none => simp [e1, e2] at hc
     | some rs =>
       simp [e1, e2] at hc
       subst hc
       simp only [cI] at e1
       cases e3 : cOp P N o with
       | none => simp [e3] at e1
       | some x =>
         simp only [e3] at e1
         split at e1
         case isFalse => cases e1
         rename_i hdst
         have hd : ∀ d, o.dst = some d → d < N := fun d e => by rw [e] at hdst; simpa [BW3] using hdst
         -- the operation is carried out
         have run : i.dst = o.dst → xop P i.op (fun v st => FA P rs Kx (s.put i.dst v st)) s → i.op = x → o.wp P a w (wpList P ops Q r) Q := fun hid hx hix => by
           rw [hix] at hx
           refine op_sound h e3 hx fun v w' ⟨p, st', M', g', a1, a2, a3, a4, a5, a6⟩ => ?_
           have hx' := Am6 h a1 a2 a4 a5 hd
           rw [hid] at a6
           refine AQ4 r rs M' g' _ _ w' e2 ?_ hx' a6 fun s2 M2 g2 a2' w2 b1 b2 b3 b4 b5 => hq s2 M2 g2 a2' w2 (a1.trans b1) ((a2.mono hn).trans b2) b3 b4 b5
           cases o.dst <;> simp only [XS.put] <;> omega
         -- the operation is passed over
         have pass : i.dst = o.dst → FA P rs Kx (s.put i.dst (.tup []) s.st) → wpList P ops Q r (a.put o.dst undef) w := fun hid hx => by
           rw [hid] at hx
           have hx' := Am6 (v := undef) (p := .tup []) h (MLe.refl M) (NLe.refl _ g) h.st (.tup [] [] rfl (fun i v p h => by simp at h)) hd
           refine AQ4 r rs M g _ _ w e2 ?_ hx' hx fun s2 M2 g2 a2' w2 b1 b2 b3 b4 b5 => hq s2 M2 g2 a2' w2 b1 b2 b3 b4 b5
           cases o.dst <;> simp only [XS.put] <;> omega
         unfold wpList
         cases e4 : o.guard with
         | none =>
           simp only [e4] at e1
           cases e1
           simp only [FA] at hk
           rw [if_pos (by simp [Region.wanted, e4])]
           exact .inl (run rfl hk rfl)
         | some gd =>
           obtain ⟨j, want⟩ := gd
           simp only [e4] at e1
           cases e5 : (ops[j]?).bind (·.dst) with
           | none => simp [e5] at e1
           | some t =>
             simp only [e5] at e1
             split at e1
             case isFalse => cases e1
             rename_i ht
             cases e1
             simp only [FA] at hk
             obtain ⟨y1, y2⟩ := At0 h e5 ht
             split at hk
             · rename_i b hb
               have hy := y1 b hb
               by_cases hw : b = want
               · subst hw
                 rw [if_pos (by simp [Region.wanted, e4, hy])]
                 exact .inl (run rfl (hk.1 rfl) rfl)
               · rw [if_neg (by simp [Region.wanted, e4, hy]; exact hw)]
                 exact pass rfl (hk.2 (by cases b <;> cases want <;> simp_all))
             · rename_i hb
               have hy := y2 hb
               rw [if_neg (by simp [Region.wanted, e4, hy])]
               exact pass rfl hk
             · exact hk.elim
theorem Ac0 {n : Nat} {s s' : XS} (hg : Ghost P n s s') : ∀ {M : Mem} {g : Nam} {a : Act} {w : World}, n ≤ s.st.length → XRel P N B w0 M g s a w → ∃ M' g', MLe M M' ∧ NLe n g g' ∧ n ≤ s'.st.length ∧ XRel P N B w0 M' g' s' a w := by
 induction hg with
 | refl s => intro M g a w hn h; exact ⟨M, g, MLe.refl M, NLe.refl n g, hn, h⟩
 | cut s k hk =>
   intro M g a w hn h
   refine ⟨M, g.cut k, MLe.refl M, (NLe.cut g k).mono hk, by simp [XS.cutTo, HI]; omega, ⟨h.size, fun i => (h.slots i).cutV, h.defers, h.st.cut k⟩⟩
 | adopt s i rows e size hi hs hz =>
   intro M g a w hn h
   have hv := h.slots i
   rw [hi] at hv
   obtain ⟨fl, s1, n1, o1⟩ := h.st.adopt hv e hs hz
   refine ⟨M, _, MLe.refl M, n1.mono hn, by simp; omega, ⟨h.size, fun j => ?_, h.defers, s1⟩⟩
   simp only [upd]
   by_cases hj : j = i
   · subst hj
     rw [if_pos rfl]
     exact .own (by simp [Nam.put]; rfl) o1
   · rw [if_neg hj]
     exact (h.slots j).mono (MLe.refl M) n1 h.st.dom
 | adoptV s i rows e size ver hi hs hz =>
   intro M g a w hn h
   have hv := h.slots i
   rw [hi] at hv
   obtain ⟨fl, s1, n1, o1⟩ := h.st.adoptV hv e hs hz ver
   refine ⟨M, _, MLe.refl M, n1.mono hn, by simp; omega, ⟨h.size, fun j => ?_, h.defers, s1⟩⟩
   simp only [upd]
   by_cases hj : j = i
   · subst hj
     rw [if_pos rfl]
     exact .own (by simp [Nam.put]; rfl) o1
   · rw [if_neg hj]
     exact (h.slots j).mono (MLe.refl M) n1 h.st.dom
 | kill s x =>
   intro M g a w hn h
   refine ⟨M, g, MLe.refl M, NLe.refl _ g, by simpa using hn, ⟨h.size, h.slots, h.defers, ⟨h.st.below, h.st.hB, h.st.mem, fun y c hy => ?_, fun y ver v hv => by rw [List.length_set]; exact h.st.dom y ver v hv, fun y z c d b hne hy hz hb => ?_⟩⟩⟩
   · replace hy : (s.st.set x .dead)[y]? = some c := hy
     by_cases hxy : x = y
     · subst hxy
       rw [List.getElem?_set] at hy
       simp only [if_true] at hy
       split at hy
       · cases hy; trivial
       · cases hy
     · rw [List.getElem?_set_ne hxy] at hy; exact h.st.cont y c hy
   · replace hy : (s.st.set x .dead)[y]? = some c := hy
     replace hz : (s.st.set x .dead)[z]? = some d := hz
     by_cases hxy : x = y
     · subst hxy
       rw [List.getElem?_set] at hy
       simp only [if_true] at hy
       split at hy
       · cases hy; simp [Bl] at hb
       · cases hy
     · rw [List.getElem?_set_ne hxy] at hy
       by_cases hxz : x = z
       · subst hxz
         rw [List.getElem?_set] at hz
         simp only [if_true] at hz
         split at hz
         · cases hz; simp [Bl]
         · cases hz
       · rw [List.getElem?_set_ne hxz] at hz
         exact h.st.sep y z c d b hne hy hz hb
 | adoptB s x off rows e size hx hc hs hz =>
   intro M g a w hn h
   obtain ⟨g', n1, s1⟩ := h.st.adopt_box hx hc e hs hz
   exact ⟨M, g', MLe.refl M, n1.mono hn, by simp; omega, ⟨h.size, fun j => (h.slots j).mono (MLe.refl M) n1 h.st.dom, h.defers, s1⟩⟩
 | freeze s i =>
   intro M g a w hn h
   obtain ⟨M', a1, a2, a3⟩ := h.st.frzA_ok (h.slots i)
   refine ⟨M', g, a1, NLe.refl n g, hn, ⟨h.size, fun j => ?_, h.defers, a2⟩⟩
   simp only [upd]
   by_cases hj : j = i
   · subst hj; rw [if_pos rfl]; exact a3
   · rw [if_neg hj]; exact (h.slots j).mono a1 (NLe.refl _ g) h.st.dom
 | freezeB s x off rows hx hc =>
   intro M g a w hn h
   exact ⟨M, g, MLe.refl M, NLe.refl n g, by simpa using hn, ⟨h.size, h.slots, h.defers, h.st.freeze_box hx hc⟩⟩
 | freezeP s i x ds hi hx =>
   intro M g a w hn h
   obtain ⟨M', a1, a2, a3⟩ := h.st.freeze_ptr hx
   refine ⟨M', g, a1, NLe.refl n g, by simpa using hn, ⟨h.size, fun j => ?_, h.defers, a2⟩⟩
   simp only [upd]
   by_cases hj : j = i
   · subst hj; rw [if_pos rfl]; exact a3 _ (hi ▸ h.slots j)
   · rw [if_neg hj]; exact (h.slots j).mono a1 (NLe.refl _ g) h.st.dom
 | freezeO s x off t ver e rows hx hc ht =>
   intro M g a w hn h
   obtain ⟨M', a1, a2⟩ := h.st.freeze_boxO hx hc ht
   exact ⟨M', g, a1, NLe.refl n g, by simpa using hn, ⟨h.size, fun j => (h.slots j).mono a1 (NLe.refl _ g) h.st.dom, h.defers, a2⟩⟩
 | havoc s r hr =>
   intro M g a w hn h
   refine ⟨M, g, MLe.refl M, NLe.refl n g, hn, ⟨h.size, fun j => ?_, h.defers, h.st⟩⟩
   rcases hr j with e | e
   · show RepV M g _ (r j); rw [e]; exact h.slots j
   · show RepV M g _ (r j); rw [e]; exact .undef _
 | trans h1 h2 ih1 ih2 =>
   intro M g a w hn h
   obtain ⟨M1, g1, a1, a2, a3, a4⟩ := ih1 hn h
   obtain ⟨M2, g2, b1, b2, b3, b4⟩ := ih2 a3 a4
   exact ⟨M2, g2, a1.trans b1, a2.trans b2, b3, b4⟩
def Cl3 : Exit → Option XE
 | .normal => some .normal
 | .exit id => some (.exit id)
 | .ret => some .ret
 | _ => none
def BN8 (P : Program) (N B : Nat) (w0 : World) (M : Mem) (g : Nam) (n : Nat) (Q : XE → XS → Prop) : Exit → Act → World → Prop :=
 fun e a w => ∃ xe s M' g', Cl3 e = some xe ∧ MLe M M' ∧ NLe n g g' ∧ n ≤ s.st.length ∧ XRel P N B w0 M' g' s a w ∧ Q xe s
theorem BN8.trans {M' : Mem} {g' : Nam} {n : Nat} {Q : XE → XS → Prop} {e : Exit} {a : Act} {w : World} (hM : MLe M M') (hN : NLe n g g') (h : BN8 P N B w0 M' g' n Q e a w) : BN8 P N B w0 M g n Q e a w := by
 obtain ⟨xe, s, M2, g2, h1, h2, h3, h4, h5, h6⟩ := h
 exact ⟨xe, s, M2, g2, h1, hM.trans h2, hN.trans h3, h4, h5, h6⟩
theorem By6 {p : Nat → Prop} (h : ∃ n, p n) : ∃ n, p n ∧ ∀ m, p m → n ≤ m := by
 obtain ⟨n, hn⟩ := h
 induction n using Nat.strongRecOn with
 | _ n ih =>
   by_cases hh : ∃ m, m < n ∧ p m
   · obtain ⟨m, hm, hp⟩ := hh; exact ih m hm hp
   · exact ⟨n, hn, fun m hm => Nat.le_of_not_lt fun hlt => hh ⟨m, hlt, hm⟩⟩
noncomputable def An0 (p : Nat → Prop) : Nat := open Classical in if h : ∃ n, p n then Classical.choose (By6 h) else 0
theorem Av9 {p : Nat → Prop} (h : ∃ n, p n) : p (An0 p) ∧ ∀ m, p m → An0 p ≤ m := by
 unfold An0
 rw [dif_pos h]
 exact Classical.choose_spec (By6 h)
theorem At5 {n : Nat} : ∀ (c : Code) (xc : XC), cC P N c = some xc → ∀ (Q : XE → XS → Prop) (M : Mem) (g : Nam) (s : XS) (a : Act) (w : World), n ≤ s.st.length → XRel P N B w0 M g s a w → BH P n xc Q s → c.wp P (BN8 P N B w0 M g n Q) a w := by
 intro c
 induction c with
 | skip => intro xc hc Q M g s a w hn h hx; simp [cC] at hc; subst hc; exact wp_skip ⟨.normal, s, M, g, rfl, MLe.refl M, NLe.refl n g, hn, h, hx⟩
 | label l => intro xc hc Q M g s a w hn h hx; simp [cC] at hc; subst hc; exact wp_label ⟨.normal, s, M, g, rfl, MLe.refl M, NLe.refl n g, hn, h, hx⟩
 | region id ops draw =>
   intro xc hc Q M g s a w hn h hx
   cases draw with
   | true =>
     simp only [cC] at hc
     cases e : cIs P N ops ops.toList with
     | none => simp [e] at hc; subst hc; exact hx.elim
     | some is =>
       simp only [e] at hc
       split at hc
       case isFalse => cases hc; exact hx.elim
       rename_i hcond
       have hx : IS P (Bz4 [] ops.toList) s.st.length 0 (SI 0 is) [] (Q .normal) ⟨s.r, s.st ++ List.replicate (is.filter fun i => R9 i.op).length .fresh⟩ := by
         split at hc
         · rename_i hst
           cases hc
           simp only [BH] at hx
           exact Ca1 hst hx
         · cases hc
           simp only [BH] at hx
           exact hx
       clear hc
       have hs1 : SRel P B w0 M g (s.st ++ List.replicate (is.filter fun i => R9 i.op).length .fresh) w := h.st.push_fresh _
       have hx1 : XRel P N B w0 M g ⟨s.r, s.st ++ List.replicate (is.filter fun i => R9 i.op).length .fresh⟩ a w.drew := ⟨h.size, h.slots, h.defers, hs1.drew⟩
       obtain ⟨outs, o1, o2, o3, o4⟩ := Bs5 (SI 0 is) 0 [] rfl rfl (Nat.zero_le _) (fun j i o _ ho => by simp at ho) (fun j hj => by omega) hx
       refine wp_region_any hcond.2 (BY1 (n := n) hcond.1 o1 (fun k o i hk hi => by
         obtain ⟨i0, q1, q2, q3, q4⟩ := Au0 is 0 k i hi
         obtain ⟨t1, t2, t3, t4⟩ := Br7 ops.toList is e k o i0 hk q1
         exact ⟨by rw [q2]; exact t1, by rw [q3]; exact t2, t3, by rw [q4]; exact t4⟩) o2 o3 (by simp; omega)
         (fun M' g' a' w' m1 m2 m3 => ⟨.normal, _, M', g', rfl, m1, m2, by rw [AF2 o1 _ (Nat.le_refl _)]; simp; omega, m3, o4⟩) ops.size (Array.replicate ops.size false) _ M g a w.drew ?_ ?_ (MLe.refl M) (NLe.refl n g) hx1)
       · have h1 := (KD hcond.1).1
         refine Nat.le_trans (List.length_filter_le _ _) ?_
         simp at h1 ⊢
         omega
       · have h1 := (KD hcond.1).1
         have hoff : ∀ k, ¬ On (Array.replicate ops.size false) k := fun k hk => by
           simp only [On, Array.getElem?_replicate] at hk
           split at hk <;> simp at hk
         refine ⟨by simp at h1 ⊢; omega, fun k hk => absurd hk (hoff k), rfl, fun i x o t hi => absurd hi (hoff i), fun t _ => rfl, fun b m hm hA => ?_⟩
         symm
         refine UJ o1 (k := 0) m (Nat.zero_le _) hm fun j o hj1 hj2 hj hb => hoff j ((hA j o hj hb).2 hj2)
   | false =>
     simp only [cC] at hc
     cases e : cIs P N ops ops.toList with
     | none => simp [e] at hc; subst hc; exact hx.elim
     | some is =>
     simp [e] at hc; subst hc
     refine wp_region_list (AQ4 ops.toList _ M g s a w e hn h hx fun s' M' g' a' w' h1 h2 h3 h4 h5 => ⟨.normal, s', M', g', rfl, h1, h2, h3, h4, h5⟩)
 | seq x y ihx ihy =>
   intro xc hc Q M g s a w hn h hx
   simp only [cC] at hc
   cases e1 : cC P N x <;> cases e2 : cC P N y <;> simp [e1, e2] at hc
   subst hc
   refine wp_seq (wp_mono (ihx _ e1 _ M g s a w hn h hx) fun e a' w' ⟨xe, s', M', g', q1, q2, q3, q4, q5, q6⟩ => ?_)
   cases e with
   | normal =>
     cases q1
     exact wp_mono (ihy _ e2 Q M' g' s' a' w' q4 q5 q6) fun e a w hp => hp.trans q2 q3
   | exit id => cases q1; exact ⟨.exit id, s', M', g', rfl, q2, q3, q4, q5, q6⟩
   | ret => cases q1; exact ⟨.ret, s', M', g', rfl, q2, q3, q4, q5, q6⟩
   | _ => cases q1
 | cond x y z ihx ihy =>
   intro xc hc Q M g s a w hn h hx
   simp only [cC] at hc
   cases e1 : cA N x <;> cases e2 : cC P N y <;> cases e3 : cC P N z <;> simp [e1, e2, e3] at hc <;> subst hc <;> (try exact hx.elim)
   simp only [BH] at hx
   have rx := BT h e1
   split at hx
   · rename_i t ht
     rw [ht] at rx
     refine wp_cond_split (V9 rx) (fun e => ?_) (fun e => ?_)
     · exact ihx _ e2 Q M g s a w hn h (hx.1 e)
     · exact ihy _ e3 Q M g s a w hn h (hx.2 e)
   · exact hx.elim
 | block id b ih =>
   intro xc hc Q M g s a w hn h hx
   simp only [cC] at hc
   cases e1 : cC P N b <;> simp [e1] at hc
   subst hc
   refine wp_block (wp_mono (ih _ e1 _ M g s a w hn h hx) fun e a' w' ⟨xe, s', M', g', q1, q2, q3, q4, q5, q6⟩ => ?_)
   cases e with
   | normal => cases q1; exact ⟨.normal, s', M', g', rfl, q2, q3, q4, q5, q6⟩
   | exit id' =>
     cases q1
     simp only [Cq] at q6
     simp only [Exit.inBlock]
     split at q6
     · rename_i hid; rw [if_pos hid]; exact ⟨.normal, s', M', g', rfl, q2, q3, q4, q5, q6⟩
     · rename_i hid; rw [if_neg hid]; exact ⟨.exit id', s', M', g', rfl, q2, q3, q4, q5, q6⟩
   | ret => cases q1; exact ⟨.ret, s', M', g', rfl, q2, q3, q4, q5, q6⟩
   | _ => cases q1
 | loop b ih =>
   intro xc hc Q M g s a w hn h hx
   simp only [cC] at hc
   cases e1 : cC P N b <;> simp [e1] at hc
   subst hc
   rename_i xb
   obtain ⟨I, ⟨m0, s0, hg0, hI0⟩, hstep⟩ := hx
   let J : Act → World → Nat → Prop := fun a w m => ∃ s M' g', MLe M M' ∧ NLe n g g' ∧ n ≤ s.st.length ∧ XRel P N B w0 M' g' s a w ∧ I m s
   have start : J a w m0 := by
     obtain ⟨M1, g1, a1, a2, a3, a4⟩ := Ac0 hg0 hn h
     exact ⟨s0, M1, g1, a1, a2, a3, a4, hI0⟩
   refine wp_loop (fun a w => ∃ m, J a w m) (fun a w => An0 (J a w)) ⟨m0, start⟩ fun a1 w1 hI => ?_
   obtain ⟨hJ, hmin⟩ := Av9 hI
   generalize hmm : An0 (J a1 w1) = m at hJ hmin
   obtain ⟨s1, M1, g1, b1, b2, b3, b4, b5⟩ := hJ
   have hb := ih _ e1 _ M1 g1 s1 a1 w1 b3 b4 (hstep m s1 b5)
   refine wp_mono hb fun e a' w' ⟨xe, s', M', g', q1, q2, q3, q4, q5, q6⟩ => ?_
   cases e with
   | normal =>
     cases q1
     obtain ⟨m', s2, hlt, hg2, hI2⟩ := q6
     obtain ⟨M2, g2, c1, c2, c3, c4⟩ := Ac0 hg2 q4 q5
     have hJ2 : J a' w' m' := ⟨s2, M2, g2, b1.trans (q2.trans c1), b2.trans (q3.trans c2), c3, c4, hI2⟩
     refine ⟨⟨m', hJ2⟩, ?_⟩
     have := (Av9 ⟨m', hJ2⟩).2 m' hJ2
     show An0 (J a' w') < m
     omega
   | exit id => cases q1; exact ⟨.exit id, s', M', g', rfl, b1.trans q2, b2.trans q3, q4, q5, q6⟩
   | ret => cases q1; exact ⟨.ret, s', M', g', rfl, b1.trans q2, b2.trans q3, q4, q5, q6⟩
   | _ => cases q1
 | exit id => intro xc hc Q M g s a w hn h hx; simp [cC] at hc; subst hc; exact wp_exit ⟨.exit id, s, M, g, rfl, MLe.refl M, NLe.refl n g, hn, h, hx⟩
 | ret => intro xc hc Q M g s a w hn h hx; simp [cC] at hc; subst hc; exact wp_ret ⟨.ret, s, M, g, rfl, MLe.refl M, NLe.refl n g, hn, h, hx⟩
 | _ => intro xc hc Q M g s a w hn h hx; simp [cC] at hc; subst hc; exact hx.elim
inductive XRes where
 | tmp (t : Nat)
 | cell (t : Nat) (agg : Bool) (size : Nat)
def Be9 (P : Program) : List ResultVar → Option (List XRes)
 | [] => some []
 | .tmp t :: r => match Be9 P r with | some rs => some (.tmp t :: rs) | none => none
 | .cell t ty :: r => match P.info? ty, Oj P ty, Be9 P r with
   | some i, some b, some rs => some (.cell t b i.size :: rs)
   | _, _, _ => none
def AP0 (s : XS) : XRes → Option PV
 | .tmp t => some (s.r t)
 | .cell t agg size => match s.r t with
   | .ptr b off => match s.st[b]? with
     | some (.box cells) => if agg then (if off + size ≤ cells.length then some (.agg ((cells.drop off).take size)) else none) else cells[off]?
     | _ => none
   | _ => none
def Dl (s : XS) : List XRes → Option (List PV)
 | [] => some []
 | r :: rs => match AP0 s r, Dl s rs with | some p, some ps => some (p :: ps) | _, _ => none
def FZ : List PV → PV
 | [p] => p
 | ps => .tup ps
def AP5 (tmps : Array Value) : ResultVar → Sem Value
 | .tmp t => pure (tmps.getD t undef)
 | .cell c t => do loadVar t (← asAddr (tmps.getD c undef))
theorem AQ8 (h : XRel P N B w0 M g s a w) : ∀ (rs : List ResultVar) (xs : List XRes) (ps : List PV), Be9 P rs = some xs → Dl s xs = some ps →
   ∃ vs, (rs.mapM (AP5 a.tmps)).run P w = .ok vs w ∧ CK M g vs ps
 | [], xs, ps, hc, hp => by simp [Be9] at hc; subst hc; simp [Dl] at hp; subst hp; exact ⟨[], by simp, CK.nil M g⟩
 | .tmp t :: r, xs, ps, hc, hp => by
   simp only [Be9] at hc
   cases e1 : Be9 P r with
   | none => simp [e1] at hc
   | some rs =>
     simp [e1] at hc
     subst hc
     simp only [Dl, AP0] at hp
     cases e2 : Dl s rs with
     | none => simp [e2] at hp
     | some qs =>
       simp [e2] at hp
       subst hp
       obtain ⟨vs, a1, a2⟩ := AQ8 h r rs qs e1 e2
       exact ⟨a.tmps.getD t undef :: vs, by simp only [List.mapM_cons, AP5, Sem.run_bind, Sem.run_pure, Result.andThen_ok, a1], CK.cons (h.slots t) a2⟩
 | .cell c t :: r, xs, ps, hc, hp => by
   simp only [Be9] at hc
   cases e1 : P.info? t with
   | none => simp [e1] at hc
   | some i => cases e2 : Oj P t with
     | none => simp [e1, e2] at hc
     | some b => cases e3 : Be9 P r with
       | none => simp [e1, e2, e3] at hc
       | some rs =>
         simp [e1, e2, e3] at hc
         subst hc
         simp only [Dl] at hp
         cases e4 : AP0 s (.cell c b i.size) with
         | none => simp [e4] at hp
         | some p => cases e5 : Dl s rs with
           | none => simp [e4, e5] at hp
           | some qs =>
             simp [e4, e5] at hp
             subst hp
             obtain ⟨vs, a1, a2⟩ := AQ8 h r rs qs e3 e5
             simp only [AP0] at e4
             have hsl := h.slots c
             split at e4
             · rename_i nb off hb
               rw [hb] at hsl
               split at e4
               · rename_i cells hst
                 obtain ⟨blk, us, T, hv, hg, hh, hr, h1⟩ := BJ9 h.st hsl hst
                 cases b with
                 | true =>
                   simp only [if_true] at e4
                   split at e4
                   case isFalse => cases e4
                   rename_i hfit
                   cases e4
                   have hlen := hr.1
                   have hl : ((us.drop off).take i.size).length = i.size := by simp; omega
                   have hrun := Om e1 e2 w ⟨blk, off, none⟩ ((us.drop off).take i.size) hl (fun j u hj => by
                     rw [Ae3 hh, ← hj, List.getElem?_take, List.getElem?_drop]
                     split
                     · rfl
                     · rename_i hlt; rw [List.getElem?_take, if_neg hlt] at hj; cases hj)
                   refine ⟨.agg ((us.drop off).take i.size).toArray :: vs, by simp only [List.mapM_cons, AP5, Sem.run_bind, show (asAddr (a.tmps.getD c undef)).run P w = .ok ⟨blk, off, none⟩ w by rw [hv]; rfl, Sem.run_pure, Result.andThen_ok, hrun, a1], CK.cons ?_ a2⟩
                   have := (hr.drop off).take i.size
                   exact .agg _ _ this.1 this.2
                 | false =>
                   simp only [Bool.false_eq_true, if_false] at e4
                   obtain ⟨u, hu, hru⟩ := hr.get e4
                   have hcell : w.cell? ⟨blk, off, none⟩ = some u := by have := Ae3 hh off 0; rw [WJ, Nat.add_zero] at this; rw [this, hu]
                   exact ⟨u :: vs, by simp only [List.mapM_cons, AP5, Sem.run_bind, show (asAddr (a.tmps.getD c undef)).run P w = .ok ⟨blk, off, none⟩ w by rw [hv]; rfl, Sem.run_pure, Result.andThen_ok, OY e2 w _ u hcell, a1], CK.cons hru a2⟩
               · cases e4
             · cases e4
theorem UL (h : XRel P N B w0 M g s a w) {fn : Func} {xs : List XRes} {ps : List PV} (hc : Be9 P fn.results.toList = some xs) (hp : Dl s xs = some ps) : ∃ v, (results fn a.tmps).run P w = .ok v w ∧ RepV M g v (FZ ps) := by
 obtain ⟨vs, h1, h2⟩ := AQ8 h fn.results.toList xs ps hc hp
 have hrun : (fn.results.mapM (AP5 a.tmps)).run P w = .ok vs.toArray w := by
   rw [Array.mapM_eq_mapM_toList]
   simp only [Sem.run_map, h1, Result.andThen_ok]
 refine ⟨if h : vs.toArray.size = 1 then vs.toArray[0] else .tuple vs.toArray, ?_, ?_⟩
 · show (do let vs ← fn.results.mapM (AP5 a.tmps); pure (if h : vs.size = 1 then vs[0] else .tuple vs) : Sem Value).run P w = _
   simp only [Sem.run_bind, hrun, Result.andThen_ok, Sem.run_pure]
 · have hl := h2.1
   match ps, vs, h2, hl with
   | [p], [v], h2, _ => exact h2.2 0 v p rfl rfl
   | [], [], h2, _ => exact .tup [] [] rfl (fun i v p h => by simp at h)
   | p :: q :: r, u :: v :: t, h2, _ => exact .tup _ _ h2.1 h2.2
def Qt (args : List PV) : Nat → PV := fun i => args.getD i .undef
def V4 (P : Program) (n : Nat) (res : List XRes) (R : PV → List Content → Prop) : XE → XS → Prop
 | .normal, s | .ret, s => ∃ ps, Dl s res = some ps ∧ R (cutV n (Dh s.st (FZ ps))) (HI n s.st)
 | _, _ => False
def Cg0 (P : Program) (n : Nat) (res : List XRes) (R : PV → List Content → Prop) : XE → XS → Prop
 | .normal, s | .ret, s => ∃ ps k, Dl s res = some ps ∧ n ≤ k ∧ R (cutV k (FZ ps)) (HI k s.st)
 | _, _ => False
structure Fn (P : Program) (f : FuncId) (N : Nat) (xc : XC) (res : List XRes) : Prop where
 ent : ∀ vs w, (callFunc f vs).run P w = .ok (.enter f vs) w
 fn : ∃ fn c, P.funcs[f]? = some fn ∧ fn.ntmps = N ∧ fn.body = some c ∧ cC P N c = some xc ∧ Be9 P fn.results.toList = some res
theorem AQ3 {vs : List Value} {args : List PV} {st : List Content} (h : SRel P B w0 M g st w) (hr : CK M g vs args) (hN : args.length ≤ N) :
   XRel P N B w0 M g ⟨Qt args, st⟩ { tmps := vs.toArray ++ Array.replicate (N - vs.toArray.size) undef, defers := [] } w := by
 have hl := hr.1
 refine ⟨by simp; omega, fun i => ?_, rfl, h⟩
 simp only [Qt]
 by_cases hi : i < args.length
 · have e1 : (vs.toArray ++ Array.replicate (N - vs.toArray.size) undef).getD i undef = vs[i]'(by omega) := by
     simp [Array.getD, show i < vs.length by omega, show i < vs.length + (N - vs.length) by omega]
   rw [e1, List.getD_eq_getElem?_getD, List.getElem?_eq_getElem hi]
   exact hr.2 i _ _ (List.getElem?_eq_getElem _) (List.getElem?_eq_getElem _)
 · rw [List.getD_eq_getElem?_getD, List.getElem?_eq_none (by omega)]
   exact .undef _
theorem Aw.of_own {f : FuncId} {xc : XC} {res : List XRes} (F : Fn P f N xc res) {args : List PV} {st : List Content} {R : PV → List Content → Prop} (hN : args.length ≤ N) (h : WF st → BH P st.length xc (Cg0 P st.length res R) ⟨Qt args, st⟩) : Aw P f args st R := by
 obtain ⟨fn, c, h1, h2, h3, h4, h5⟩ := F.fn
 refine ⟨F.ent, fun B w0 M g w vs hs hr => calls_of_wp h1 h3 ?_⟩
 subst h2
 refine wp_mono (At5 c xc h4 _ M g _ _ w (Nat.le_refl _) (AQ3 hs hr hN) (h hs.wf)) fun e a w' ⟨xe, s, M', g', q1, q2, q3, q4, q5, q6⟩ => ?_
 have fin : (∃ ps k, Dl s res = some ps ∧ st.length ≤ k ∧ R (cutV k (FZ ps)) (HI k s.st)) → a.defers = [] ∧ ∃ v, (results fn a.tmps).run P w' = .ok v w' ∧ ∃ v1 p st' M' g', Ending.returned v = .returned v1 ∧ MLe M M' ∧ NLe st.length g g' ∧ st.length ≤ st'.length ∧ SRel P B w0 M' g' st' w' ∧ RepV M' g' v1 p ∧ R p st' := by
   rintro ⟨ps, k, r1, r2, r3⟩
   obtain ⟨v, v1, v2⟩ := UL q5 h5 r1
   exact ⟨q5.defers, v, v1, v, _, _, M', g'.cut k, rfl, q2, q3.trans ((NLe.cut g' k).mono r2), by have q4' : st.length ≤ s.st.length := q4; simp [HI]; omega, q5.st.cut k, v2.cutV, r3⟩
 cases e with
 | normal => cases q1; exact fin q6
 | ret => cases q1; exact fin q6
 | exit id => cases q1; exact q6.elim
 | _ => cases q1
theorem Aw.of {f : FuncId} {xc : XC} {res : List XRes} (F : Fn P f N xc res) {args : List PV} {st : List Content} {R : PV → List Content → Prop} (hN : args.length ≤ N) (h : WF st → BH P st.length xc (V4 P st.length res R) ⟨Qt args, st⟩) : Aw P f args st R := by
 obtain ⟨fn, c, h1, h2, h3, h4, h5⟩ := F.fn
 refine ⟨F.ent, fun B w0 M g w vs hs hr => calls_of_wp h1 h3 ?_⟩
 subst h2
 refine wp_mono (At5 c xc h4 _ M g _ _ w (Nat.le_refl _) (AQ3 hs hr hN) (h hs.wf)) fun e a w' ⟨xe, s, M', g', q1, q2, q3, q4, q5, q6⟩ => ?_
 have fin : (∃ ps, Dl s res = some ps ∧ R (cutV st.length (Dh s.st (FZ ps))) (HI st.length s.st)) → a.defers = [] ∧ ∃ v, (results fn a.tmps).run P w' = .ok v w' ∧ ∃ v1 p st' M' g', Ending.returned v = .returned v1 ∧ MLe M M' ∧ NLe st.length g g' ∧ st.length ≤ st'.length ∧ SRel P B w0 M' g' st' w' ∧ RepV M' g' v1 p ∧ R p st' := by
   rintro ⟨ps, r1, r3⟩
   obtain ⟨v, v1, v2⟩ := UL q5 h5 r1
   obtain ⟨M2, b1, b2, b3⟩ := q5.st.frzA_ok v2
   exact ⟨q5.defers, v, v1, v, _, _, M2, g'.cut st.length, rfl, q2.trans b1, q3.trans (NLe.cut g' _), by have q4' : st.length ≤ s.st.length := q4; simp [HI]; omega, b2.cut _, b3.cutV, r3⟩
 cases e with
 | normal => cases q1; exact fin q6
 | ret => cases q1; exact fin q6
 | exit id => cases q1; exact q6.elim
 | _ => cases q1
def Ce4 (P : Program) (n : Nat) (res : List XRes) (R : PV → List Content → Prop) : XE → XS → Prop
 | .normal, s | .ret, s => ∃ s', Ghost P n s s' ∧ ∃ ps k, Dl s' res = some ps ∧ n ≤ k ∧ R (cutV k (FZ ps)) (HI k s'.st)
 | _, _ => False
theorem Aw.of_ownG {f : FuncId} {xc : XC} {res : List XRes} (F : Fn P f N xc res) {args : List PV} {st : List Content} {R : PV → List Content → Prop} (hN : args.length ≤ N) (h : WF st → BH P st.length xc (Ce4 P st.length res R) ⟨Qt args, st⟩) : Aw P f args st R := by
 obtain ⟨fn, c, h1, h2, h3, h4, h5⟩ := F.fn
 refine ⟨F.ent, fun B w0 M g w vs hs hr => calls_of_wp h1 h3 ?_⟩
 subst h2
 refine wp_mono (At5 c xc h4 _ M g _ _ w (Nat.le_refl _) (AQ3 hs hr hN) (h hs.wf)) fun e a w' ⟨xe, s, M', g', q1, q2, q3, q4, q5, q6⟩ => ?_
 have fin : (∃ s', Ghost P st.length s s' ∧ ∃ ps k, Dl s' res = some ps ∧ st.length ≤ k ∧ R (cutV k (FZ ps)) (HI k s'.st)) → a.defers = [] ∧ ∃ v, (results fn a.tmps).run P w' = .ok v w' ∧ ∃ v1 p st' M' g', Ending.returned v = .returned v1 ∧ MLe M M' ∧ NLe st.length g g' ∧ st.length ≤ st'.length ∧ SRel P B w0 M' g' st' w' ∧ RepV M' g' v1 p ∧ R p st' := by
   rintro ⟨s', hg, ps, k, r1, r2, r3⟩
   obtain ⟨M2, g2, u1, u2, u3, u4⟩ := Ac0 hg q4 q5
   obtain ⟨v, v1, v2⟩ := UL u4 h5 r1
   exact ⟨u4.defers, v, v1, v, _, _, M2, g2.cut k, rfl, q2.trans u1, (q3.trans u2).trans ((NLe.cut g2 k).mono r2), by have q4' : st.length ≤ s'.st.length := u3; simp [HI]; omega, u4.st.cut k, v2.cutV, r3⟩
 cases e with
 | normal => cases q1; exact fin q6
 | ret => cases q1; exact fin q6
 | exit id => cases q1; exact q6.elim
 | _ => cases q1
end
end Go.Ax
