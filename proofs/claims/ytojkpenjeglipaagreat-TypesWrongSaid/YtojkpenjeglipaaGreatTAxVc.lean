import Derived.Test.YtojkpenjeglipaaGreatTAxVb
set_option linter.unusedVariables false
namespace Go.Ax
open Go.RowKit
theorem WP (b k : Nat) : (⟨b, 0, none⟩ : Addr).add k = ⟨b, k, none⟩ := by unfold Addr.add; split <;> simp_all
theorem Bx4 {w : World} {B : Nat} {e : TypeId} {size : Nat} {b n cap : Nat} {xs : List Value} (h : w.ownsRow B e size (.slice (some ⟨b, 0, none⟩) n cap) n xs) {j : Nat} (hj : j < n * size) : w.cell? ⟨b, j, none⟩ = xs[j]? := h.cellAt j hj
theorem SRel.freeze1 {P : Program} {B : Nat} {w0 : World} {M : Mem} {g : Nam} {st : List Content} {w : World} (h : SRel P B w0 M g st w) {t : Nat} {e : TypeId} {ver : Nat} {rows : List (List D)} (ht : st[t]? = some (.row e ver rows)) :
   ∃ M', MLe M M' ∧ SRel P B w0 M' g st w ∧ ∀ v fl, g t ver = some (v, fl) → RepD M' v (.sl rows) := by
 obtain ⟨v, fl, size, h1, h2, h3, h4⟩ := h.cont t _ ht
 rcases h4 with ⟨rfl, xs, h4, h5, h6⟩ | ⟨rfl, h5, a, hv, h6⟩
 case inr => exact ⟨M, MLe.refl M, h, fun v' fl' e' => by rw [h1] at e'; cases e'; exact h6⟩
 rcases h4.2 with ⟨rfl, hn⟩ | ⟨b, cap, cur, rfl, hB, hh, hcap, hmax, hsz, htk⟩
 · refine ⟨M, MLe.refl M, h, fun v' fl' e' => ?_⟩
   rw [h1] at e'
   cases e'
   have : rows = [] := List.eq_nil_of_length_eq_zero hn
   subst this
   exact .nil
 · have hlen := h4.1
   have hcellx : ∀ j, j < rows.length * size → w.cell? ⟨b, j, none⟩ = xs[j]? := fun j hj => Bx4 h4 hj
   have hbl : Bl g t (.row e ver rows) = some b := by simp [Bl, h1, Value.ownBlock]
   let M' : Mem := fun a => if a.block = b ∧ a.off < rows.length * size ∧ a.spot = none then w.cell? a else M a
   have hle : MLe M M' := fun a u e' => by
     show (if a.block = b ∧ a.off < rows.length * size ∧ a.spot = none then w.cell? a else M a) = some u
     split
     · exact h.mem a u e'
     · exact e'
   have hout : ∀ a, a.block ≠ b → M' a = M a := fun a ha => by
     show (if a.block = b ∧ a.off < rows.length * size ∧ a.spot = none then w.cell? a else M a) = _
     rw [if_neg (fun hh => ha hh.1)]
   refine ⟨M', hle, ⟨h.below, h.hB, fun a u e' => ?_, fun y c ey => ?_, h.dom, h.sep⟩, fun v' fl' e' => ?_⟩
   · have e' : (if a.block = b ∧ a.off < rows.length * size ∧ a.spot = none then w.cell? a else M a) = some u := e'
     split at e'
     · exact e'
     · exact h.mem a u e'
   · by_cases hy : y = t
     · subst hy
       rw [ht] at ey
       cases ey
       refine ⟨_, true, size, h1, h2, h3, .inl ⟨rfl, xs, h4, fun i row hr => ?_, fun b' hb' a ha hne => ?_⟩⟩
       · obtain ⟨hl, hc⟩ := h5 i row hr
         exact ⟨hl, fun j d hj => let ⟨u, e1, e2⟩ := hc j d hj; ⟨u, e1, e2.mono hle⟩⟩
       · simp [Value.ownBlock] at hb'
         subst hb'
         by_cases hcond : a.block = b ∧ a.off < rows.length * size ∧ a.spot = none
         · exact ⟨hcond.2.1, hcond.2.2⟩
         · have : M' a = M a := by
             show (if a.block = b ∧ a.off < rows.length * size ∧ a.spot = none then w.cell? a else M a) = _
             rw [if_neg hcond]
           rw [this] at hne
           exact h6 b (by simp [Value.ownBlock]) a ha hne
     · refine (h.cont y c ey).keep hle (NLe.refl st.length _) h.dom (fun _ => rfl) (fun _ _ => rfl) (fun b' hb' a ha => hout a (fun hab => ?_))
       exact h.sep y t c _ b' hy ey ht hb' (by rw [hbl, ← hab, ha])
   · rw [h1] at e'
     cases e'
     refine .sl ⟨b, 0, none⟩ cap size rows (fun i j => (xs[i * size + j]?).getD undef) hcap (fun i row hr => (h5 i row hr).1) (fun i row j d hr hj => ?_) (fun i row j d hr hj => ?_)
     · obtain ⟨hl, hc⟩ := h5 i row hr
       obtain ⟨u, e1, e2⟩ := hc j d hj
       have hi : i < rows.length := (List.getElem?_eq_some_iff.1 hr).1
       have hjs : j < size := by have := (List.getElem?_eq_some_iff.1 hj).1; omega
       have hlt : i * size + j < rows.length * size := by
         have : (i + 1) * size ≤ rows.length * size := Nat.mul_le_mul_right _ hi
         rw [Nat.add_mul] at this
         omega
       rw [WP]
       show (if b = b ∧ i * size + j < rows.length * size ∧ (none : Option Nat) = none then w.cell? ⟨b, i * size + j, none⟩ else _) = _
       rw [if_pos ⟨rfl, hlt, rfl⟩, hcellx _ hlt, e1]
       rfl
     · obtain ⟨hl, hc⟩ := h5 i row hr
       obtain ⟨u, e1, e2⟩ := hc j d hj
       rw [e1]
       exact e2.mono hle
def A4 (st : List Content) : PV → Option (List (List D))
 | .d (.sl rows) => some rows
 | .ex rows => some rows
 | .own t ver => match st[t]? with
   | some (.row _ ver' rows) => if ver' = ver then some rows else none
   | _ => none
 | _ => none
def frz (st : List Content) : PV → PV
 | .own t ver => match st[t]? with
   | some (.row _ ver' rows) => if ver' = ver then .d (.sl rows) else .own t ver
   | _ => .own t ver
 | .ex rows => .d (.sl rows)
 | p => p
def JH (st : List Content) : PV → PV
 | .agg ds => .agg (ds.map (frz st))
 | q => frz st q
def Dh (st : List Content) : PV → PV
 | .agg cs => .agg (cs.map (frz st))
 | .tup cs => .tup (cs.map (JH st))
 | p => frz st p
theorem SRel.frz_ok {P : Program} {B : Nat} {w0 : World} {M : Mem} {g : Nam} {st : List Content} {w : World} (h : SRel P B w0 M g st w) {v : Value} {p : PV} (hp : RepV M g v p) :
   ∃ M', MLe M M' ∧ SRel P B w0 M' g st w ∧ RepV M' g v (frz st p) := by
 have keep : ∃ M', MLe M M' ∧ SRel P B w0 M' g st w ∧ RepV M' g v p := ⟨M, MLe.refl M, h, hp⟩
 cases hp with
 | own hg h1 =>
   rename_i t ver fl
   simp only [frz]
   cases ht : st[t]? with
   | none => simpa [ht] using keep
   | some c =>
     cases c with
     | row e ver' rows =>
       simp only
       split
       · rename_i hv
         subst hv
         obtain ⟨M', hle, hs, hr⟩ := h.freeze1 ht
         exact ⟨M', hle, hs, .d (hr v fl hg)⟩
       · exact keep
     | dead => exact keep
     | fresh => exact keep
     | box _ => exact keep
     | map _ _ _ => exact keep
 | exnil => exact ⟨M, MLe.refl M, h, .d .nil⟩
 | ex a rows hr => exact ⟨M, MLe.refl M, h, .d hr⟩
 | d hd => exact keep
 | ptr hd => exact keep
 | dp a cells val hm hr => exact keep
 | nilp => exact keep
 | fn f vs us ps qs hl hk hv hu => exact keep
 | nilf => exact keep
 | map hd => exact keep
 | nilm => exact keep
 | agg vs ps hl hd => exact keep
 | tup vs ps hl hd => exact keep
 | undef => exact keep
theorem SRel.frz_list {P : Program} {B : Nat} {w0 : World} {g : Nam} {st : List Content} {w : World} (f : PV → PV)
   (hf : ∀ M v p, SRel P B w0 M g st w → RepV M g v p → ∃ M', MLe M M' ∧ SRel P B w0 M' g st w ∧ RepV M' g v (f p)) :
   ∀ (vs : List Value) (ps : List PV) (M : Mem), SRel P B w0 M g st w → CK M g vs ps → ∃ M', MLe M M' ∧ SRel P B w0 M' g st w ∧ CK M' g vs (ps.map f)
 | [], [], M, h, hr => ⟨M, MLe.refl M, h, hr⟩
 | [], p :: ps, M, h, hr => by have := hr.1; simp at this
 | v :: vs, [], M, h, hr => by have := hr.1; simp at this
 | v :: vs, p :: ps, M, h, hr => by
   obtain ⟨M1, hle1, h1, hv⟩ := hf M v p h (hr.2 0 v p rfl rfl)
   have hr' : CK M g vs ps := ⟨by have := hr.1; simpa using this, fun i u q e1 e2 => hr.2 (i + 1) u q (by simpa using e1) (by simpa using e2)⟩
   obtain ⟨M2, hle2, h2, hvs⟩ := SRel.frz_list f hf vs ps M1 h1 (hr'.mono hle1 (NLe.refl st.length g) h.dom)
   exact ⟨M2, hle1.trans hle2, h2, CK.cons (hv.mono hle2 (NLe.refl st.length g) h.dom) hvs⟩
theorem SRel.frzAgg_ok {P : Program} {B : Nat} {w0 : World} {M : Mem} {g : Nam} {st : List Content} {w : World} (h : SRel P B w0 M g st w) {v : Value} {cs : List PV} (hp : RepV M g v (.agg cs)) :
   ∃ M', MLe M M' ∧ SRel P B w0 M' g st w ∧ RepV M' g v (.agg (cs.map (frz st))) := by
 cases hp with
 | agg vs ps hl hd =>
   obtain ⟨M', h1, h2, h3⟩ := SRel.frz_list (frz st) (fun M v p hs hr => hs.frz_ok hr) vs cs M h ⟨hl, hd⟩
   exact ⟨M', h1, h2, .agg vs _ h3.1 h3.2⟩
theorem SRel.frzA_ok {P : Program} {B : Nat} {w0 : World} {M : Mem} {g : Nam} {st : List Content} {w : World} (h : SRel P B w0 M g st w) {v : Value} {p : PV} (hp : RepV M g v p) :
   ∃ M', MLe M M' ∧ SRel P B w0 M' g st w ∧ RepV M' g v (Dh st p) := by
 cases p with
 | agg cs => exact h.frzAgg_ok hp
 | tup cs =>
   cases hp with
   | tup vs ps hl hd =>
     obtain ⟨M', h1, h2, h3⟩ := SRel.frz_list (JH st) (fun M v p hs hr => by
       cases p with
       | agg ds => exact hs.frzAgg_ok hr
       | _ => exact hs.frz_ok hr) vs cs M h ⟨hl, hd⟩
     exact ⟨M', h1, h2, .tup vs _ h3.1 h3.2⟩
 | _ => exact h.frz_ok hp
def AP (n : Nat) : PV → Bool
 | .d _ | .ex _ | .dp _ | .nilp | .nilf | .nilm | .undef => true
 | .own t _ | .map t => decide (t < n)
 | .ptr x _ => decide (x < n)
 | .fn _ ps qs => belowL n ps && belowL n qs
 | .agg ps | .tup ps => belowL n ps
where
 belowL (n : Nat) : List PV → Bool
   | [] => true
   | p :: ps => AP n p && belowL n ps
mutual
theorem Bj3 (n : Nat) : ∀ p, AP n p = true → PV.Below n p
 | .d x, _ => .d x
 | .ex r, _ => .ex r
 | .dp c, _ => .dp c
 | .nilp, _ => .nilp
 | .nilf, _ => .nilf
 | .nilm, _ => .nilm
 | .undef, _ => .undef
 | .own t v, h => .own (by simpa [AP] using h)
 | .map t, h => .map (by simpa [AP] using h)
 | .ptr x o, h => .ptr (by simpa [AP] using h)
 | .fn f ps qs, h => by
   simp only [AP, Bool.and_eq_true] at h
   exact .fn f ps qs (H3 n ps h.1) (H3 n qs h.2)
 | .agg ps, h => .agg ps (H3 n ps (by simpa [AP] using h))
 | .tup ps, h => .tup ps (H3 n ps (by simpa [AP] using h))
theorem H3 (n : Nat) : ∀ ps, AP.belowL n ps = true → ∀ p, p ∈ ps → PV.Below n p
 | [], _, p, hp => by cases hp
 | q :: qs, h, p, hp => by
   simp only [AP.belowL, Bool.and_eq_true] at h
   cases hp with
   | head => exact Bj3 n q h.1
   | tail _ hp => exact H3 n qs h.2 p hp
end
mutual
theorem BR0 (n : Nat) : ∀ p, PV.Below n p → AP n p = true
 | .d x, _ => rfl
 | .ex r, _ => rfl
 | .dp c, _ => rfl
 | .nilp, _ => rfl
 | .nilf, _ => rfl
 | .nilm, _ => rfl
 | .undef, _ => rfl
 | .own t v, h => by cases h with | own h => simpa [AP] using h
 | .map t, h => by cases h with | map h => simpa [AP] using h
 | .ptr x o, h => by cases h with | ptr h => simpa [AP] using h
 | .fn f ps qs, h => by cases h with | fn _ _ _ hp hq => simp only [AP, Bool.and_eq_true]; exact ⟨Mw n ps hp, Mw n qs hq⟩
 | .agg ps, h => by cases h with | agg _ hp => simp only [AP]; exact Mw n ps hp
 | .tup ps, h => by cases h with | tup _ hp => simp only [AP]; exact Mw n ps hp
theorem Mw (n : Nat) : ∀ ps, (∀ p, p ∈ ps → PV.Below n p) → AP.belowL n ps = true
 | [], _ => rfl
 | q :: qs, h => by
   simp only [AP.belowL, Bool.and_eq_true]
   exact ⟨BR0 n q (h q (by simp)), Mw n qs (fun p hp => h p (by simp [hp]))⟩
end

def X2 (n : Nat) : Content → Content
 | .box cells => if AP.belowL n cells then .box cells else .dead
 | c => c
def HI (n : Nat) (st : List Content) : List Content := (st.take n).map (X2 n)
def cutV (n : Nat) (p : PV) : PV := if AP n p then p else .undef
def Nam.cut (g : Nam) (n : Nat) : Nam := fun x ver => if x < n then g x ver else none
theorem RepV.cut {M : Mem} {g : Nam} {n : Nat} {v : Value} {p : PV} (h : RepV M g v p) (hb : PV.Below n p) : RepV M (g.cut n) v p :=
 h.mono' (MLe.refl M) (n := n) (fun x hx ver u e => by simp only [Nam.cut, if_pos hx]; exact e) hb
theorem RepV.cutV {M : Mem} {g : Nam} {n : Nat} {v : Value} {p : PV} (h : RepV M g v p) : RepV M (g.cut n) v (cutV n p) := by
 unfold Ax.cutV
 split
 · rename_i hb; exact h.cut (Bj3 n p hb)
 · exact .undef v
theorem Bj4 {n : Nat} {st : List Content} {x : Nat} {c : Content} (h : (HI n st)[x]? = some c) : x < n ∧ ∃ d, st[x]? = some d ∧ c = X2 n d := by
 simp only [HI, List.getElem?_map, List.getElem?_take] at h
 split at h
 · rename_i hx
   cases e : st[x]? with
   | none => simp [e] at h
   | some d => simp [e] at h; exact ⟨hx, d, rfl, h.symm⟩
 · simp at h
theorem Br3 {g : Nam} {n x : Nat} (hx : x < n) (d : Content) : Bl (g.cut n) x (X2 n d) = Bl g x d ∨ Bl (g.cut n) x (X2 n d) = none := by
 cases d with
 | dead => exact .inr rfl
 | fresh => exact .inr rfl
 | box cells =>
   simp only [X2]
   split
   · left; simp [Bl, Nam.cut, hx]
   · exact .inr rfl
 | row e v r => left; simp [Bl, X2, Nam.cut, hx]
 | map k e ks => left; simp [Bl, X2, Nam.cut, hx]
theorem SRel.cut {P : Program} {B : Nat} {w0 : World} {M : Mem} {g : Nam} {st : List Content} {w : World} (h : SRel P B w0 M g st w) (n : Nat) : SRel P B w0 M (g.cut n) (HI n st) w := by
 refine ⟨h.below, h.hB, h.mem, fun x c e => ?_, fun x ver v e => ?_, fun x y c d b hne hx hy hb => ?_⟩
 · obtain ⟨hx, d, hd, rfl⟩ := Bj4 e
   have hc := h.cont x d hd
   have hg : ∀ u, (g.cut n) x u = g x u := fun u => by simp [Nam.cut, hx]
   cases d with
   | dead => trivial
   | fresh => intro u; rw [hg]; exact hc u
   | box cells =>
     simp only [X2]
     split
     · rename_i hb
       obtain ⟨b, vs, T, h1, h2, h3, h4, h5, h6⟩ := hc
       exact ⟨b, vs, T, by rw [hg]; exact h1, h2, h3, ⟨h4.1, fun i v p e1 e2 => (h4.2 i v p e1 e2).cut (H3 n cells hb p (List.mem_of_getElem? e2))⟩, h5, h6⟩
     · trivial
   | row e ver rows =>
     obtain ⟨v, fl, size, h1, h2, h3, h4⟩ := hc
     exact ⟨v, fl, size, by rw [hg]; exact h1, fun u hu => by rw [hg]; exact h2 u hu, h3, h4⟩
   | map k e ks =>
     obtain ⟨b, D, h1, h2⟩ := hc
     exact ⟨b, D, by rw [hg]; exact h1, h2⟩
 · simp only [Nam.cut] at e
   split at e
   · rename_i hx
     have := h.dom x ver v e
     simp [HI]
     omega
   · cases e
 · obtain ⟨hx', c', hc', rfl⟩ := Bj4 hx
   obtain ⟨hy', d', hd', rfl⟩ := Bj4 hy
   rcases Br3 (g := g) hx' c' with e1 | e1
   · rw [e1] at hb
     rcases Br3 (g := g) hy' d' with e2 | e2
     · rw [e2]; exact h.sep x y c' d' b hne hc' hd' hb
     · rw [e2]; simp
   · rw [e1] at hb; cases hb
theorem NLe.cut (g : Nam) (n : Nat) : NLe n g (g.cut n) := fun x hx ver v e => by simp only [Nam.cut, if_pos hx]; exact e
def WF (st : List Content) : Prop := ∀ cells, Content.box cells ∈ st → AP.belowL st.length cells = true
theorem SRel.wf {P : Program} {B : Nat} {w0 : World} {M : Mem} {g : Nam} {st : List Content} {w : World} (h : SRel P B w0 M g st w) : WF st := by
 intro cells hc
 obtain ⟨x, hx, e⟩ := List.getElem_of_mem hc
 have ex : st[x]? = some (.box cells) := by rw [List.getElem?_eq_getElem hx, e]
 obtain ⟨b, vs, T, h1, h2, h3, h4, h5, h6⟩ := h.cont x _ ex
 refine Mw _ _ (fun p hp => ?_)
 obtain ⟨i, hi, rfl⟩ := List.getElem_of_mem hp
 obtain ⟨v, hv, hr⟩ := h4.get (List.getElem?_eq_getElem hi)
 exact hr.isBelow h.dom
theorem As {st l : List Content} (h : WF st) : HI st.length (st ++ l) = st := by
 unfold HI
 rw [List.take_left]
 conv => rhs; rw [← List.map_id st]
 refine List.map_congr_left (fun c hc => ?_)
 cases c with
 | box cells => simp only [X2, h cells hc, if_true, id]
 | _ => rfl
end Go.Ax
