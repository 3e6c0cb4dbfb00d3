import Derived.Test.YtojkpenjeglipaaGreatTAxVa
set_option linter.unusedVariables false
namespace Go.Ax
open Go.RowKit
theorem BB4.keep {P : Program} {B n : Nat} {M M' : Mem} {g g' : Nam} {w w' : World} {x : Nat} {c : Content} (h : BB4 P B M g w x c) (hM : MLe M M') (hN : NLe n g g')
   (hd : ∀ x ver v, g x ver = some v → x < n) (hx : ∀ ver, g' x ver = g x ver) (hw : ∀ b, Bl g x c = some b → w'.heap[b]? = w.heap[b]?)
   (hm : ∀ b, Bl g x c = some b → ∀ a, a.block = b → M' a = M a) : BB4 P B M' g' w' x c := by
 cases c with
 | dead => trivial
 | fresh => intro u; rw [hx]; exact h u
 | box cells =>
   obtain ⟨b, vs, T, h1, h2, h3, h4, h5, h6⟩ := h
   have hb : Bl g x (.box cells) = some b := by simp [Bl, h1]
   refine ⟨b, vs, T, by rw [hx]; exact h1, h2, by rw [hw b hb]; exact h3, h4.mono hM hN hd, h5, fun a ha => by rw [hm b hb a ha]; exact h6 a ha⟩
 | row e ver rows =>
   obtain ⟨v, fl, size, h1, h2, h3, h4⟩ := h
   refine ⟨v, fl, size, by rw [hx]; exact h1, fun u hu => by rw [hx]; exact h2 u hu, h3, ?_⟩
   rcases h4 with ⟨rfl, xs, h4, h5, h6⟩ | ⟨rfl, h5, a, hv, h6⟩
   · have hb : ∀ b, v.ownBlock = some b → Bl g x (.row e ver rows) = some b := fun b hb => by simp [Bl, h1, hb]
     refine .inl ⟨rfl, xs, ⟨h4.1, ?_⟩, ?_, fun b hv a ha hne => h6 b hv a ha (by rw [← hm b (hb b hv) a ha]; exact hne)⟩
     · rcases h4.2 with h | ⟨gg, cap, cur, rfl, hB, hh, r⟩
       · exact .inl h
       · exact .inr ⟨gg, cap, cur, rfl, hB, by rw [hw gg (hb gg (by simp [Value.ownBlock]))]; exact hh, r⟩
     · intro i row hr
       obtain ⟨hl, hc⟩ := h5 i row hr
       exact ⟨hl, fun j d hj => let ⟨u, e1, e2⟩ := hc j d hj; ⟨u, e1, e2.mono hM⟩⟩
   · exact .inr ⟨rfl, h5, a, hv, h6.mono hM⟩
 | map k e ks =>
   obtain ⟨b, D, h1, h2, ⟨es, clock, hh, F, hs, hD⟩, h4, h5⟩ := h
   exact ⟨b, D, by rw [hx]; exact h1, h2, ⟨es, clock, (hw b (by simp [Bl, h1])).trans hh, F, hs, hD⟩, h4, h5⟩
theorem Ic {P : Program} {B : Nat} {M : Mem} {g : Nam} {w : World} {x : Nat} {c : Content} (h : BB4 P B M g w x c) {b : Nat} (hb : Bl g x c = some b) : B ≤ b ∧ b < w.heap.size := by
 cases c with
 | dead => simp [Bl] at hb
 | fresh => simp [Bl] at hb
 | box cells =>
   obtain ⟨b', vs, T, h1, h2, h3, h4, h5, h6⟩ := h
   simp [Bl, h1] at hb
   subst hb
   exact ⟨h2, (Array.getElem?_eq_some_iff.1 h3).1⟩
 | row e ver rows =>
   obtain ⟨v, fl, size, h1, h2, h3, h4⟩ := h
   rcases h4 with ⟨rfl, xs, h4, h5, h6⟩ | ⟨rfl, h5, a, hv, h6⟩
   · simp [Bl, h1] at hb
     exact h4.lt b hb
   · simp [Bl, h1] at hb
 | map k e ks =>
   obtain ⟨b', D, h1, h2, h3, h4, h5⟩ := h
   simp [Bl, h1] at hb
   subst hb
   exact ⟨h2, h3.lt⟩
theorem PN {P : Program} {B : Nat} {w0 : World} {M : Mem} {g : Nam} {st : List Content} {w : World} (h : SRel P B w0 M g st w) {a : Addr} {v : Value} (hm : M a = some v) : a.block < w.heap.size :=
 World.block_lt_of_cell? w a (h.mem a v hm)
theorem SRel.same {P : Program} {B : Nat} {w0 : World} {M : Mem} {g : Nam} {st : List Content} {w w' : World} (h : SRel P B w0 M g st w) (hh : w'.heap = w.heap) (ho : w'.os = w.os) (ht : w'.tape = w.tape) (hp : w'.output = w.output) : SRel P B w0 M g st w' where
 below := h.below.trans ⟨ho, ht, hp, by rw [hh]; exact Nat.le_refl _, fun k _ => by rw [hh]⟩
 hB := by rw [hh]; exact h.hB
 mem := fun a v e => by have := h.mem a v e; simp only [World.cell?, hh] at this ⊢; exact this
 cont := fun x c e => (h.cont x c e).keep (MLe.refl _) (NLe.refl st.length _) h.dom (fun _ => rfl) (fun b _ => by rw [hh]) (fun _ _ _ _ => rfl)
 dom := h.dom
 sep := h.sep
theorem SRel.drew {P : Program} {B : Nat} {w0 : World} {M : Mem} {g : Nam} {st : List Content} {w : World} (h : SRel P B w0 M g st w) : SRel P B w0 M g st w.drew := h.same rfl rfl rfl rfl
theorem SRel.push_mem {P : Program} {B : Nat} {w0 : World} {M : Mem} {g : Nam} {st : List Content} {w : World} (h : SRel P B w0 M g st w) (vs : Array Value) (T : TypeId) (n : Nat) :
   SRel P B w0 (fun a => if a.block = w.heap.size ∧ a.off < n then (w.alloc (.cells vs T)).cell? a else M a) g st (w.alloc (.cells vs T)) ∧
     MLe M (fun a => if a.block = w.heap.size ∧ a.off < n then (w.alloc (.cells vs T)).cell? a else M a) := by
 have hle : MLe M (fun a => if a.block = w.heap.size ∧ a.off < n then (w.alloc (.cells vs T)).cell? a else M a) := fun a v e => by
   have := PN h e
   show (if a.block = w.heap.size ∧ a.off < n then _ else _) = _
   rw [if_neg (by omega)]
   exact e
 refine ⟨⟨h.below.alloc h.hB _, by simp; have := h.hB; omega, fun a v e => ?_, fun x c e => ?_, h.dom, h.sep⟩, hle⟩
 · replace e : (if a.block = w.heap.size ∧ a.off < n then (w.alloc (.cells vs T)).cell? a else M a) = some v := e
   split at e
   · exact e
   · rw [World.cell?_of_block (Bd3 w _ _ (PN h e))]; exact h.mem a v e
 · refine (h.cont x c e).keep hle (NLe.refl st.length _) h.dom (fun _ => rfl) (fun b hb => ?_) (fun b hb a ha => ?_)
   · exact Bd3 w _ b (Ic (h.cont x c e) hb).2
   · have := (Ic (h.cont x c e) hb).2
     show (if a.block = w.heap.size ∧ a.off < n then _ else _) = _
     rw [if_neg (by omega)]
def Nam.put (g : Nam) (x ver : Nat) (v : Value × Bool) : Nam := fun y u => if y = x ∧ u = ver then some v else g y u
theorem NLe.put (g : Nam) (n : Nat) (ver : Nat) (v : Value × Bool) : NLe n g (g.put n ver v) := fun x hx r u e => by
 simp only [Nam.put, show ¬ (x = n ∧ r = ver) by omega, if_false]; exact e
theorem Nb {α : Type} {l : List α} {c d : α} {x : Nat} (h : (l ++ [c])[x]? = some d) : (x < l.length ∧ l[x]? = some d) ∨ (x = l.length ∧ d = c) := by
 by_cases hx : x < l.length
 · rw [List.getElem?_append_left hx] at h; exact .inl ⟨hx, h⟩
 · rw [List.getElem?_append_right (by omega)] at h
   have hx' : x = l.length := by
     have := (List.getElem?_eq_some_iff.1 h).1
     simp at this
     omega
   subst hx'
   simp at h
   exact .inr ⟨rfl, h.symm⟩
theorem SRel.push {P : Program} {B : Nat} {w0 : World} {M : Mem} {g : Nam} {st : List Content} {w w' : World} (h : SRel P B w0 M g st w) (hgr : w.grownBy w' none) (ver : Nat) (v : Value × Bool) (c : Content)
   (hc : BB4 P B M (g.put st.length ver v) w' st.length c) (hnew : ∀ b, Bl (g.put st.length ver v) st.length c = some b → w.heap.size ≤ b) :
   SRel P B w0 M (g.put st.length ver v) (st ++ [c]) w' := by
 have hsame : ∀ x, x < st.length → ∀ u, (g.put st.length ver v) x u = g x u := fun x hx u => by
   simp only [Nam.put, show ¬ (x = st.length ∧ u = ver) by omega, if_false]
 have hblk : ∀ x d, x < st.length → Bl (g.put st.length ver v) x d = Bl g x d := fun x d hx => by
   cases d <;> simp [Bl, hsame x hx]
 refine ⟨h.below.grown hgr h.hB (fun k e => by cases e), Nat.le_trans h.hB hgr.size, fun a u e => ?_, fun x d e => ?_, fun x r u e => ?_, fun x y d e b hne hx hy hb => ?_⟩
 · rw [World.cell?_of_block (hgr.block _ (PN h e) (by simp))]; exact h.mem a u e
 · rcases Nb e with ⟨hx, e⟩ | ⟨rfl, rfl⟩
   · exact (h.cont x d e).keep (MLe.refl _) (NLe.put g st.length ver v) h.dom (hsame x hx) (fun b hb => hgr.block b (Ic (h.cont x d e) hb).2 (by simp)) (fun _ _ _ _ => rfl)
   · exact hc
 · simp only [Nam.put] at e
   split at e
   · rename_i hh; simp; omega
   · have := h.dom x r u e; simp; omega
 · rcases Nb hx with ⟨hx, ex⟩ | ⟨rfl, rfl⟩
   · rw [hblk x d hx] at hb
     have h1 := (Ic (h.cont x d ex) hb).2
     rcases Nb hy with ⟨hy, ey⟩ | ⟨rfl, rfl⟩
     · rw [hblk y e hy]; exact h.sep x y d e b hne ex ey hb
     · intro h2; have := hnew b h2; omega
   · rcases Nb hy with ⟨hy, ey⟩ | ⟨rfl, rfl⟩
     · rw [hblk y e hy]
       intro h2
       have h1 := (Ic (h.cont y e ey) h2).2
       have := hnew b hb
       omega
     · exact absurd rfl hne
theorem SRel.push_box {P : Program} {B : Nat} {w0 : World} {M : Mem} {g : Nam} {st : List Content} {w : World} (h : SRel P B w0 M g st w) (vs : List Value) (cells : List PV) (T : TypeId) (hr : CK M g vs cells) (ho : ∀ p, p ∈ cells → p.one = true) :
   SRel P B w0 M (g.put st.length 0 (.pointer (some ⟨w.heap.size, 0, none⟩), true)) (st ++ [.box cells]) (w.alloc (.cells vs.toArray T)) := by
 refine h.push (World.grownBy_alloc w _ none) 0 _ (.box cells) ?_ ?_
 · refine ⟨w.heap.size, vs, T, by simp [Nam.put], h.hB, Bd7 w _, hr.mono (MLe.refl _) (NLe.put g st.length _ _) h.dom, ho, fun a ha => ?_⟩
   cases e : M a with
   | none => rfl
   | some u => have := PN h e; omega
 · intro b hb
   simp [Bl, Nam.put] at hb
   omega
theorem SRel.push_fresh1 {P : Program} {B : Nat} {w0 : World} {M : Mem} {g : Nam} {st : List Content} {w : World} (h : SRel P B w0 M g st w) : SRel P B w0 M g (st ++ [.fresh]) w := by
 refine ⟨h.below, h.hB, h.mem, fun x c e => ?_, fun x ver v e => by have := h.dom x ver v e; simp; omega, fun x y c d b hne hx hy hb => ?_⟩
 · rcases Nb e with ⟨_, e⟩ | ⟨rfl, rfl⟩
   · exact h.cont x c e
   · intro u
     cases e' : g st.length u with
     | none => rfl
     | some q => have := h.dom _ _ _ e'; omega
 · rcases Nb hx with ⟨_, hx⟩ | ⟨rfl, rfl⟩
   · rcases Nb hy with ⟨_, hy⟩ | ⟨rfl, rfl⟩
     · exact h.sep x y c d b hne hx hy hb
     · simp [Bl]
   · simp [Bl] at hb
theorem SRel.push_fresh {P : Program} {B : Nat} {w0 : World} {M : Mem} {g : Nam} {w : World} : ∀ (n : Nat) {st : List Content}, SRel P B w0 M g st w → SRel P B w0 M g (st ++ List.replicate n .fresh) w
 | 0, st, h => by simpa using h
 | n + 1, st, h => by
   have := SRel.push_fresh n h.push_fresh1
   rw [List.replicate_succ]
   simpa using this
theorem AK9 {α : Type} {l : List α} {c d : α} {x y : Nat} (h : (l.set x c)[y]? = some d) : (y = x ∧ x < l.length ∧ d = c) ∨ (y ≠ x ∧ l[y]? = some d) := by
 rw [List.getElem?_set] at h
 split at h
 · rename_i e
   subst e
   split at h
   · rename_i hl; exact .inl ⟨rfl, hl, by simpa using h.symm⟩
   · cases h
 · rename_i e; exact .inr ⟨Ne.symm e, h⟩
theorem SRel.write {P : Program} {B : Nat} {w0 : World} {M : Mem} {g g' : Nam} {st : List Content} {w w' : World} (h : SRel P B w0 M g st w) {x : Nat} {c c' : Content} (hx : st[x]? = some c)
   (hgr : w.grownBy w' (Bl g x c)) (hg : ∀ y, y ≠ x → ∀ u, g' y u = g y u) (hle : ∀ u v, g x u = some v → g' x u = some v)
   (hmem : ∀ a u, M a = some u → some a.block = Bl g x c → w'.cell? a = some u)
   (hc : BB4 P B M g' w' x c') (hnew : ∀ b, Bl g' x c' = some b → Bl g x c = some b ∨ w.heap.size ≤ b) :
   SRel P B w0 M g' (st.set x c') w' ∧ NLe st.length g g' := by
 have hN : NLe st.length g g' := fun y hy u v e => by
   by_cases hyx : y = x
   · subst hyx; exact hle u v e
   · rw [hg y hyx]; exact e
 have hxl : x < st.length := (List.getElem?_eq_some_iff.1 hx).1
 have hblk : ∀ y d, y ≠ x → Bl g' y d = Bl g y d := fun y d hy => by cases d <;> simp [Bl, hg y hy]
 refine ⟨⟨h.below.grown hgr h.hB (fun k e => (Ic (h.cont x c hx) e).1), Nat.le_trans h.hB hgr.size, fun a u e => ?_, fun y d e => ?_, fun y r u e => ?_, fun y z d e b hne hy hz hb => ?_⟩, hN⟩
 · by_cases hb : some a.block = Bl g x c
   · exact hmem a u e hb
   · rw [World.cell?_of_block (hgr.block _ (PN h e) hb)]; exact h.mem a u e
 · rcases AK9 e with ⟨rfl, _, rfl⟩ | ⟨hne, e⟩
   · exact hc
   · refine (h.cont y d e).keep (MLe.refl _) hN h.dom (hg y hne) (fun b hb => hgr.block b (Ic (h.cont y d e) hb).2 (fun h2 => ?_)) (fun _ _ _ _ => rfl)
     exact h.sep y x d c b hne e hx hb h2.symm
 · rw [List.length_set]
   by_cases hyx : y = x
   · omega
   · rw [hg y hyx] at e; exact h.dom y r u e
 · rcases AK9 hy with ⟨e1, _, e2⟩ | ⟨hne1, hy'⟩
   · rcases AK9 hz with ⟨e3, _, e4⟩ | ⟨hne2, hz'⟩
     · exact absurd (e1.trans e3.symm) hne
     · rw [hblk z e hne2]
       rw [e1, e2] at hb
       rcases hnew b hb with h1 | h1
       · exact h.sep x z c e b (Ne.symm hne2) hx hz' h1
       · intro h2; have := (Ic (h.cont z e hz') h2).2; omega
   · rw [hblk y d hne1] at hb
     rcases AK9 hz with ⟨e3, _, e4⟩ | ⟨hne2, hz'⟩
     · intro h2
       rw [e3, e4] at h2
       rcases hnew b h2 with h1 | h1
       · exact h.sep y x d c b hne1 hy' hx hb h1
       · have := (Ic (h.cont y d hy') hb).2; omega
     · rw [hblk z e hne2]; exact h.sep y z d e b hne hy' hz' hb
def splice {α : Type} (l : List α) (off : Nat) (ps : List α) : List α := l.take off ++ ps ++ l.drop (off + ps.length)
theorem CK.splice {M : Mem} {g : Nam} {vs us : List Value} {ps qs : List PV} (h : CK M g vs ps) (k : CK M g us qs) (off : Nat) : CK M g (Ax.splice vs off us) (Ax.splice ps off qs) := by
 unfold Ax.splice
 rw [k.1]
 exact ((h.take off).append k).append (h.drop _)
theorem Ax9 (w : World) (b : Nat) (cs : Array Value) : w.grownBy (w.setRow b cs) (some b) :=
 ⟨rfl, rfl, rfl, by simp, fun k _ hk => setRow_other w b k cs (fun e => hk (by rw [e]))⟩
theorem SRel.set_box {P : Program} {B : Nat} {w0 : World} {M : Mem} {g : Nam} {st : List Content} {w : World} (h : SRel P B w0 M g st w) {x : Nat} {cells cells' : List PV} (hx : st[x]? = some (.box cells))
   {b : Nat} (hb : g x 0 = some (.pointer (some ⟨b, 0, none⟩), true)) (vs : List Value) (hr : CK M g vs cells') (ho : ∀ p, p ∈ cells' → p.one = true) :
   SRel P B w0 M g (st.set x (.box cells')) (w.setRow b vs.toArray) := by
 obtain ⟨b', vs0, T, h1, h2, h3, h4, h5, h6⟩ := h.cont x _ hx
 rw [hb] at h1
 simp at h1
 subst h1
 have hbl : Bl g x (.box cells) = some b := by simp [Bl, hb]
 refine (h.write (g' := g) hx (by rw [hbl]; exact Ax9 w b _) (fun _ _ _ => rfl) (fun _ _ e => e) (fun a u e ha => ?_) ?_ (fun b2 h2 => ?_)).1
 · rw [hbl] at ha
   have : a.block = b := by simpa using ha
   rw [h6 a this] at e
   cases e
 · exact ⟨b, vs, T, hb, h2, setRow_heap w b _ _ T _ h3, hr, ho, h6⟩
 · left
   simp [Bl, hb] at h2 ⊢
   exact h2
end Go.Ax
