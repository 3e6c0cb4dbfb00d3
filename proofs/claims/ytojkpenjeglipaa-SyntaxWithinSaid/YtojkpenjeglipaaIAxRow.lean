import Derived.Test.YtojkpenjeglipaaIAxU
import Derived.ProofKit
import Derived.ChangeCalls
import Derived.ReadAgain
import Derived.OpenShut
import Derived.Handed
import Derived.JoinedOf
set_option linter.unusedVariables false
set_option linter.unusedSimpArgs false
namespace Go.Ax
open Go.RowKit Go.ChangeShapes
def CQ (P : Program) : Nat → TypeId → Bool
 | 0, _ => false
 | n + 1, t => match P.underlying t with
   | some .bool | some (.int _) | some .string => decide (P.cellsOf t = 1)
   | some (.slice e) => decide (P.cellsOf t = 1) && CQ P n e && decide (0 < P.cellsOf e)
   | some (.struct fs) => (fs.toList.all fun f => CQ P n f.type) && lay P t 0 fs.toList
   | _ => false
where
 lay (P : Program) (t : TypeId) : Nat → List Field → Bool
   | k, [] => decide (P.cellsOf t = k)
   | k, f :: r => decide (f.offset = k) && lay P t (k + P.cellsOf f.type) r
def Ds (P : Program) : Nat → TypeId → List D → Prop
 | 0, _, _ => False
 | n + 1, t, ds => match P.underlying t with
   | some .bool => ∃ b, ds = [.bool b]
   | some (.int k) => ∃ i, ds = [.int k i] ∧ (Lit.int k i).wf = true
   | some .string => ∃ s, ds = [.str s] ∧ s.size ≤ maxLen
   | some (.slice e) => ∃ rows, ds = [.sl rows] ∧ rows.length ≤ maxLen ∧ ∀ row, row ∈ rows → Ds P n e row
   | some (.struct fs) => parts (Ds P n) fs.toList ds
   | _ => False
where
 parts (T : TypeId → List D → Prop) : List Field → List D → Prop
   | [], ds => ds = []
   | f :: r, ds => ∃ a b, ds = a ++ b ∧ T f.type a ∧ parts T r b
def QU (M : Mem) (cs : List Value) (ds : List D) : Prop := cs.length = ds.length ∧ ∀ (j : Nat) (v : Value) (x : D), cs[j]? = some v → ds[j]? = some x → RepD M v x
theorem QU.nil (M : Mem) : QU M [] [] := ⟨rfl, fun j v x h => by simp at h⟩
theorem QU.one {M : Mem} {v : Value} {x : D} (h : RepD M v x) : QU M [v] [x] := ⟨rfl, fun j u y h1 h2 => by
 cases j with
 | zero => simp at h1 h2; subst h1; subst h2; exact h
 | succ j => simp at h1⟩
theorem QU.app {M : Mem} {a b : List Value} {c d : List D} (h : QU M a c) (k : QU M b d) : QU M (a ++ b) (c ++ d) := by
 refine ⟨by simp [h.1, k.1], fun j v x h1 h2 => ?_⟩
 have hl := h.1
 by_cases hj : j < c.length
 · rw [List.getElem?_append_left (by omega)] at h1
   rw [List.getElem?_append_left hj] at h2
   exact h.2 j v x h1 h2
 · rw [List.getElem?_append_right (by omega)] at h1
   rw [List.getElem?_append_right (by omega)] at h2
   rw [hl] at h1
   exact k.2 _ v x h1 h2
section
variable {H : Type} {enc : TypeId × Value → H} {P : Program} {w w' : World} {sp : Nat → Bool} {held : Bool}
theorem AC7 {base : Nat} {a : Addr} {n : Nat} {xs : List Value} (h : w.cells? base a n = some xs) : xs.length = n ∧ ∀ j, j < n → w.cell? (a.add j) = xs[j]? := by
 unfold World.cells? at h
 split at h
 · refine ⟨by simpa using mapM_some_length h, fun j hj => mapM_some_get h j j (by simp [hj])⟩
 · cases h
theorem Rl {t : TypeId} : ∀ (fs : List Field) (k : Nat), CQ.lay P t k fs = true → P.cellsOf t = k + (fs.map fun f => P.cellsOf f.type).sum
 | [], k, h => by simpa [CQ.lay] using h
 | f :: r, k, h => by
   simp only [CQ.lay, Bool.and_eq_true, decide_eq_true_eq] at h
   have := Rl r _ h.2
   simp only [List.map_cons, List.sum_cons]
   omega
theorem Az5 {t : TypeId} : ∀ (fs : List Field) (k : Nat), CQ.lay P t k fs = true → ∀ (j : Nat) f, fs[j]? = some f → f.offset = k + ((fs.take j).map fun f => P.cellsOf f.type).sum
 | [], k, h, j, f, hj => by simp at hj
 | g :: r, k, h, j, f, hj => by
   simp only [CQ.lay, Bool.and_eq_true, decide_eq_true_eq] at h
   cases j with
   | zero => simp at hj; subst hj; simpa using h.1
   | succ j =>
     simp at hj
     have := Az5 r _ h.2 j f hj
     simp only [List.take_succ_cons, List.map_cons, List.sum_cons]
     omega
theorem VM {α : Type} (q : Nat → α → Prop) : ∀ n : Nat, (∀ i, i < n → ∃ x, q i x) → ∃ l : List α, l.length = n ∧ ∀ i x, l[i]? = some x → q i x
 | 0, _ => ⟨[], rfl, fun i x h => by simp at h⟩
 | n + 1, h => by
   obtain ⟨l, hl, hq⟩ := VM q n (fun i hi => h i (by omega))
   obtain ⟨y, hy⟩ := h n (by omega)
   refine ⟨l ++ [y], by simp [hl], fun i x hx => ?_⟩
   by_cases hi : i < n
   · rw [List.getElem?_append_left (by omega)] at hx; exact hq i x hx
   · rw [List.getElem?_append_right (by omega)] at hx
     have : i = n := by
       have := (List.getElem?_eq_some_iff.1 hx).1
       simp at this; omega
     subst this
     simp [hl] at hx; subst hx; exact hy
theorem Sh : ∀ (n : Nat) (t : TypeId), CQ P n t = true → ∀ (fuel : Nat) (cs : List Value) (x : DataW H × List MemPlace),
   DataW.trod enc P w 0 sp held fuel t cs = some x → ∃ ds, cs.length = P.cellsOf t ∧ QU w.cell? cs ds ∧ Ds P n t ds
 | 0, t, h, fuel, cs, x, ht => by simp [CQ] at h
 | n + 1, t, h, fuel, cs, x, ht => by
   unfold CQ at h
   cases hu : P.underlying t with
   | none => simp [hu] at h
   | some td =>
     rw [hu] at h
     cases td with
     | bool =>
       obtain ⟨b, rfl, _⟩ := DataW.trod_bool hu ht
       exact ⟨[.bool b], by simpa using (of_decide_eq_true h).symm, QU.one (.bool b), by simp [Ds, hu]⟩
     | int k =>
       obtain ⟨i, rfl, _, hw⟩ := DataW.trod_int hu ht
       exact ⟨[.int k i], by simpa using (of_decide_eq_true h).symm, QU.one (.int k i), by simp [Ds, hu, hw]⟩
     | string =>
       obtain ⟨s, rfl, _, hs⟩ := DataW.trod_string hu ht
       exact ⟨[.str s], by simpa using (of_decide_eq_true h).symm, QU.one (.str s), by simp [Ds, hu, hs]⟩
     | slice e =>
       simp only [Bool.and_eq_true, decide_eq_true_eq] at h
       obtain ⟨⟨h1, h2⟩, h3⟩ := h
       rcases DataW.trod_slice hu ht with ⟨rfl, _⟩ | ⟨a, len, cap, elems, rest, m, rfl, rfl, _, _, hlc, hcap, hel, hget, _, _⟩
       · exact ⟨[.sl []], by simp [h1], QU.one .nil, by simp [Ds, hu]⟩
       · have hrow : ∀ i, i < len → ∃ row, QU w.cell? ((List.range (P.cellsOf e)).map fun j => (w.cell? (a.add (i * P.cellsOf e + j))).getD undef) row ∧ Ds P n e row ∧ (∀ j, j < P.cellsOf e → ∃ u, w.cell? (a.add (i * P.cellsOf e + j)) = some u) := by
           intro i hi
           have hg := hget i hi
           rw [List.getElem?_eq_getElem (by omega)] at hg
           cases hc : w.cells? 0 (a.add (i * P.cellsOf e)) (P.cellsOf e) with
           | none => rw [hc] at hg; cases hg
           | some xs =>
             rw [hc] at hg
             obtain ⟨hx1, hx2⟩ := AC7 hc
             obtain ⟨ds, q1, q2, q3⟩ := Sh n e h2 m xs _ hg
             have hcell : ∀ j, j < P.cellsOf e → w.cell? (a.add (i * P.cellsOf e + j)) = xs[j]? := fun j hj => by rw [← hx2 j hj, UN]
             have exs : ((List.range (P.cellsOf e)).map fun j => (w.cell? (a.add (i * P.cellsOf e + j))).getD undef) = xs := by
               refine List.ext_getElem? fun j => ?_
               by_cases hj : j < P.cellsOf e
               · rw [List.getElem?_map, List.getElem?_range hj]
                 simp only [Option.map_some]
                 rw [hcell j hj, List.getElem?_eq_getElem (by omega)]
                 rfl
               · rw [List.getElem?_eq_none (by simp; omega), List.getElem?_eq_none (by omega)]
             refine ⟨ds, by rw [exs]; exact q2, q3, fun j hj => ⟨xs[j]'(by omega), by rw [hcell j hj]; exact List.getElem?_eq_getElem _⟩⟩
         obtain ⟨rows, hrl, hrq⟩ := VM _ len hrow
         refine ⟨[.sl rows], by simp [h1], QU.one ?_, by
           unfold Ds
           rw [hu]
           refine ⟨rows, rfl, by omega, fun row hm => ?_⟩
           obtain ⟨i, hi, rfl⟩ := List.getElem_of_mem hm
           exact (hrq i _ (List.getElem?_eq_getElem hi)).2.1⟩
         rw [← hrl]
         have hlen : ∀ (i : Nat) (row : List D), rows[i]? = some row → row.length = P.cellsOf e := fun i row hr => by
           have := (hrq i row hr).1.1
           simpa using this.symm
         refine .sl a cap (P.cellsOf e) rows (fun i j => (w.cell? (a.add (i * P.cellsOf e + j))).getD undef) (by omega) hlen (fun i row j d hr hd => ?_) (fun i row j d hr hd => ?_)
         · have hj : j < P.cellsOf e := by have := (List.getElem?_eq_some_iff.1 hd).1; have := hlen i row hr; omega
           obtain ⟨u, hu'⟩ := (hrq i row hr).2.2 j hj
           simp only [hu', Option.getD_some]
         · have hj : j < P.cellsOf e := by have := (List.getElem?_eq_some_iff.1 hd).1; have := hlen i row hr; omega
           refine (hrq i row hr).1.2 j _ d ?_ hd
           rw [List.getElem?_map, List.getElem?_range hj]
           rfl
     | struct fs =>
       simp only [Bool.and_eq_true] at h
       obtain ⟨h1, h2⟩ := h
       obtain ⟨xs, m, rfl, _, hcl, hxl, hget⟩ := DataW.trod_struct hu ht
       have hcells := Rl fs.toList 0 h2
       have key : ∀ (l : List Field) (k j : Nat), (∀ i f, l[i]? = some f → fs.toList[j + i]? = some f) → CQ.lay P t k l = true → k ≤ cs.length → ∃ ds, QU w.cell? (cs.drop k) ds ∧ Ds.parts (Ds P n) l ds := by
         intro l
         induction l with
         | nil =>
           intro k j _ hl hk
           simp only [CQ.lay, decide_eq_true_eq] at hl
           refine ⟨[], ?_, rfl⟩
           rw [List.drop_of_length_le (by omega)]
           exact QU.nil _
         | cons f r ih =>
           intro k j hj hl hk
           have hl' := hl
           simp only [CQ.lay, Bool.and_eq_true, decide_eq_true_eq] at hl
           have hf : fs.toList[j]? = some f := by simpa using hj 0 f (by simp)
           have hp : CQ P n f.type = true := List.all_eq_true.1 h1 f (List.mem_of_getElem? hf)
           have hjl : j < fs.size := by have := (List.getElem?_eq_some_iff.1 hf).1; simpa using this
           have hg := hget j f (by simpa using hf)
           rw [List.getElem?_eq_getElem (by omega), hl.1] at hg
           obtain ⟨ds, q1, q2, q3⟩ := Sh n f.type hp m _ _ hg
           have hle : k + P.cellsOf f.type ≤ cs.length := by
             have := Rl (f :: r) k hl'
             simp only [List.map_cons, List.sum_cons] at this
             omega
           obtain ⟨ds2, p1, p2⟩ := ih (k + P.cellsOf f.type) (j + 1) (fun i g hg => by have := hj (i + 1) g (by simpa using hg); rw [← this]; congr 1; omega) hl.2 hle
           refine ⟨ds ++ ds2, ?_, ds, ds2, rfl, q3, p2⟩
           have := q2.app p1
           rw [← List.drop_drop, List.take_append_drop] at this
           exact this
       obtain ⟨ds, q1, q2⟩ := key fs.toList 0 0 (fun i f hi => by simpa using hi) h2 (by omega)
       refine ⟨ds, hcl, by simpa using q1, by unfold Ds; rw [hu]; exact q2⟩
     | _ => simp at h
theorem Si (hM : ∀ a v, w.cell? a = some v → w'.cell? a = some v) : ∀ (n : Nat) (t : TypeId), CQ P n t = true → ∀ (fuel : Nat) (cs : List Value) (x : DataW H × List MemPlace),
   DataW.trod enc P w 0 sp held fuel t cs = some x → DataW.trod enc P w' 0 sp held fuel t cs = some x
 | 0, t, h, fuel, cs, x, ht => by simp [CQ] at h
 | n + 1, t, h, 0, cs, x, ht => by simp [DataW.trod] at ht
 | n + 1, t, h, fuel + 1, cs, x, ht => by
   unfold CQ at h
   have hcells : ∀ (a : Addr) (k : Nat) (xs : List Value), w.cells? 0 a k = some xs → w'.cells? 0 a k = some xs := fun a k xs hc => by
     unfold World.cells? at hc ⊢
     split at hc
     · rename_i h0
       rw [if_pos h0]
       exact mapM_mono (fun i y hy => hM _ _ hy) hc
     · cases hc
   cases hu : P.underlying t with
   | none => simp [hu] at h
   | some td =>
     rw [hu] at h
     cases td with
     | bool => obtain ⟨b, rfl, rfl⟩ := DataW.trod_bool hu ht; simp [DataW.trod, hu]
     | int k => obtain ⟨i, rfl, rfl, hw⟩ := DataW.trod_int hu ht; simp [DataW.trod, hu, hw]
     | string => obtain ⟨s, rfl, rfl, hs⟩ := DataW.trod_string hu ht; simp [DataW.trod, hu, hs]
     | slice e =>
       simp only [Bool.and_eq_true, decide_eq_true_eq] at h
       obtain ⟨⟨h1, h2⟩, h3⟩ := h
       have hel : ∀ (a : Addr) (i : Nat) (y : DataW H × List MemPlace), (w.cells? 0 (a.add (i * P.cellsOf e)) (P.cellsOf e)).bind (DataW.trod enc P w 0 sp held fuel e) = some y → (w'.cells? 0 (a.add (i * P.cellsOf e)) (P.cellsOf e)).bind (DataW.trod enc P w' 0 sp held fuel e) = some y := fun a i y hy => by
         cases hc : w.cells? 0 (a.add (i * P.cellsOf e)) (P.cellsOf e) with
         | none => rw [hc] at hy; cases hy
         | some xs =>
           rw [hc] at hy
           rw [hcells _ _ _ hc]
           exact Si hM n e h2 fuel xs y hy
       rcases DataW.trod_slice hu ht with ⟨rfl, rfl⟩ | ⟨a, len, cap, elems, rest, m, hm, rfl, rfl, _, hlc, hcap, _⟩
       · simp [DataW.trod, hu]
       · simp only [DataW.trod, hu] at ht ⊢
         split at ht
         · rename_i hc
           rw [if_pos hc]
           cases he : (List.range len).mapM (fun i => (w.cells? 0 (a.add (i * P.cellsOf e)) (P.cellsOf e)).bind (DataW.trod enc P w 0 sp held fuel e)) with
           | none => rw [he] at ht; cases ht
           | some els =>
             rw [he] at ht
             rw [mapM_mono (fun i y hy => hel a i y hy) he]
             simp only [Option.bind_some] at ht ⊢
             split at ht
             · rename_i hs
               rw [if_pos hs]
               cases hr : (List.range (cap - len)).mapM (fun j => (w.cells? 0 (a.add ((len + j) * P.cellsOf e)) (P.cellsOf e)).bind (DataW.trod enc P w 0 sp held fuel e)) with
               | none => rw [hr] at ht; cases ht
               | some rs =>
                 rw [hr] at ht
                 rw [mapM_mono (fun j y hy => hel a (len + j) y hy) hr]
                 exact ht
             · rename_i hs
               rw [if_neg hs]
               exact ht
         · cases ht
     | struct fs =>
       simp only [Bool.and_eq_true] at h
       unfold DataW.trod at ht ⊢
       rw [hu] at ht ⊢
       simp only at ht ⊢
       split at ht
       · rename_i hc
         rw [if_pos hc]
         cases hx : fs.toList.mapM (fun f => DataW.trod enc P w 0 sp held fuel f.type ((cs.drop f.offset).take (P.cellsOf f.type))) with
         | none => rw [hx] at ht; cases ht
         | some xs =>
           rw [hx] at ht
           rw [mapM_mem_mono (fun f hf y hy => Si hM n f.type (List.all_eq_true.1 h.1 f hf) fuel _ y hy) hx]
           exact ht
       · cases ht
     | _ => simp at h
where
 mapM_mem_mono {α β : Type} {f g : α → Option β} : ∀ {l : List α}, (∀ x, x ∈ l → ∀ y, f x = some y → g x = some y) → ∀ {r : List β}, l.mapM f = some r → l.mapM g = some r
   | [], _, r, h => by simpa using h
   | a :: l, hfg, r, h => by
     rw [List.mapM_cons] at h ⊢
     cases ha : f a with
     | none => rw [ha] at h; cases h
     | some b =>
       rw [ha] at h
       rw [hfg a (by simp) b ha]
       cases hl : l.mapM f with
       | none => rw [hl] at h; cases h
       | some bs =>
         rw [hl] at h
         rw [mapM_mem_mono (fun x hx => hfg x (by simp [hx])) hl]
         exact h
end
theorem At4 {P : Program} : Kids P (fun t => ∃ n, CQ P n t = true) where
 pointer := fun {t e} ⟨n, h⟩ hu => by cases n with | zero => simp [CQ] at h | succ n => simp [CQ, hu] at h
 slice := fun {t e} ⟨n, h⟩ hu => by
   cases n with
   | zero => simp [CQ] at h
   | succ n => simp only [CQ, hu, Bool.and_eq_true] at h; exact ⟨n, h.1.2⟩
 array := fun {t e k} ⟨n, h⟩ hu => by cases n with | zero => simp [CQ] at h | succ n => simp [CQ, hu] at h
 struct := fun {t fs} ⟨n, h⟩ hu => by
   cases n with
   | zero => simp [CQ] at h
   | succ n =>
     simp only [CQ, hu, Bool.and_eq_true] at h
     refine ⟨fun f hf => ⟨n, List.all_eq_true.1 h.1 f hf⟩, by simpa using Rl fs.toList 0 h.2, fun j f hj => by simpa using Az5 fs.toList 0 h.2 j f hj⟩
 map := fun {t k e} ⟨n, h⟩ hu => by cases n with | zero => simp [CQ] at h | succ n => simp [CQ, hu] at h
theorem Av1 {P : Program} : ∀ t e, (∃ n, CQ P n t = true) → P.underlying t = some (.slice e) → 0 < P.cellsOf e := fun t e ⟨n, h⟩ hu => by
 cases n with
 | zero => simp [CQ] at h
 | succ n => simp only [CQ, hu, Bool.and_eq_true, decide_eq_true_eq] at h; exact h.2
def Ab8 (P : Program) (t : TypeId) (ds : List D) : PV := match P.underlying t, ds with
 | some (.struct _), ds => .agg (ds.map .d)
 | _, [d] => .d d
 | _, _ => .undef
def SS (P : Program) (n : Nat) : List TypeId → List (List D) → Prop
 | [], ds => ds = []
 | t :: ts, dss => ∃ d r, dss = d :: r ∧ Ds P n t d ∧ SS P n ts r
def Vu (P : Program) : List TypeId → List (List D) → List PV
 | t :: ts, d :: ds => Ab8 P t d :: Vu P ts ds
 | _, _ => []
theorem At7 {P : Program} {w : World} {base : Nat} {t : TypeId} {v : Value} {n : Nat} (hp : CQ P (n + 1) t = true) (h : Value.okWide P w .any base t v) :
   (∃ fs cs, P.underlying t = some (.struct fs) ∧ v = .agg cs) ∨ ((∀ fs, P.underlying t ≠ some (.struct fs)) ∧ v.cells = #[v]) := by
 unfold CQ at hp
 unfold Value.okWide at h
 cases hu : P.underlying t with
 | none => simp [hu] at hp
 | some td =>
   rw [hu] at hp h
   cases td with
   | struct fs => obtain ⟨cs, rfl, _⟩ := h; exact .inl ⟨fs, cs, rfl, rfl⟩
   | bool => refine .inr ⟨fun fs e => (by cases e), ?_⟩; cases v <;> simp_all [Cell.okWide, Cell.ok, Value.cells]
   | int k => refine .inr ⟨fun fs e => (by cases e), ?_⟩; cases v <;> simp_all [Cell.okWide, Cell.ok, Value.cells]
   | string => refine .inr ⟨fun fs e => (by cases e), ?_⟩; cases v <;> simp_all [Cell.okWide, Cell.ok, Value.cells]
   | slice e => refine .inr ⟨fun fs e => (by cases e), ?_⟩; cases v <;> simp_all [Cell.okWide, Cell.ok, Value.cells]
   | _ => simp at hp
section
variable {H : Type} {enc : TypeId × Value → H} {P : Program} {w : World}
theorem Ae2 {n base : Nat} : ∀ (ts : List TypeId) (vs : List Value) (ds : List (DataW H)) (ps : List MemPlace), (∀ t, t ∈ ts → CQ P (n + 1) t = true) → DataW.TrodAll enc P w 0 (fun _ => true) true ts vs ds ps →
   (∀ (j : Nat) t v, ts[j]? = some t → vs[j]? = some v → Value.okWide P w .any base t v) → ∃ dss, SS P (n + 1) ts dss ∧ ∀ g, C2 w.cell? g vs (Vu P ts dss)
 | [], [], ds, ps, hp, h, hv => ⟨[], rfl, fun g => C2.nil _ _⟩
 | [], v :: vs, [], ps, hp, h, hv => h.elim
 | [], v :: vs, d :: ds, ps, hp, h, hv => h.elim
 | t :: ts, [], ds, ps, hp, h, hv => by cases ds <;> exact h.elim
 | t :: ts, v :: vs, [], ps, hp, h, hv => h.elim
 | t :: ts, v :: vs, d :: ds, ps, hp, h, hv => by
   obtain ⟨p, q, ⟨fuel, h1⟩, h2, _⟩ := h
   obtain ⟨dss, k1, k2⟩ := Ae2 ts vs ds q (fun t ht => hp t (by simp [ht])) h2 (fun j t v a b => hv (j + 1) t v (by simpa using a) (by simpa using b))
   have hpt := hp t (by simp)
   obtain ⟨dd, e1, e2, e3⟩ := Sh (n + 1) t hpt fuel _ _ h1
   refine ⟨dd :: dss, ⟨dd, dss, rfl, e3, k1⟩, fun g => C2.cons ?_ (k2 g)⟩
   rcases At7 hpt (hv 0 t v rfl rfl) with ⟨fs, cs, hu, rfl⟩ | ⟨hu, hc⟩
   · have : Ab8 P t dd = .agg (dd.map .d) := by unfold Ab8; rw [hu]
     rw [this]
     have h2 := RepV.agg (M := w.cell?) (g := g) cs.toList (dd.map .d) (by simpa [Value.cells] using e2.1) (fun i u x hu hx => by
       rw [List.getElem?_map] at hx
       cases hd : dd[i]? with
       | none => rw [hd] at hx; cases hx
       | some y => rw [hd] at hx; simp at hx; subst hx; exact .d (e2.2 i u y (by simpa [Value.cells] using hu) hd))
     simpa using h2
   · rw [hc] at e2
     have hl := e2.1
     match dd, hl with
     | [y], _ =>
       have : Ab8 P t [y] = .d y := by
         unfold Ab8
         cases hu2 : P.underlying t with
         | none => rfl
         | some td => cases td <;> first | rfl | exact absurd hu2 (hu _)
       rw [this]
       exact .d (e2.2 0 v y rfl rfl)
theorem law_lift {C : Checked} {os : Os} {f tb : FuncId} {fn : Func} {s : ChangeSpec} {conds : List PathCond} {apart fresh : Bool} {n : Nat}
   (own : ownKnob C.prog.godebug = none) (started : os.Started) (noInit : C.prog.inits.idxOf? f = none) (hfn : C.prog.funcs[f]? = some fn)
   (witness : ∃ (w : World) (tape : Tape) (i : Input), w.os = os ∧ (w.forCall tape i).Shaped C.prog ∧ i.vars = [] ∧ Input.okWide C.prog (w.forCall tape i) .any w.heap.size f i ∧
     s.pre6 enc C.prog fn conds apart (w.forCall tape i).memory i.args ∧ ({} : Assume).holds C.prog (lone (Frame.enter C.prog f i.args .normal) [] (w.forCall tape i)))
   (hvars : s.vars = []) (hs : ∀ ds : List (DataW H), ds.length = fn.params.size → s.fn H ds = { results := [.lit (.bool true)], args := ds })
   (hres : fn.resultTypes = #[tb]) (htb : C.prog.underlying tb = some .bool)
   (hplain : ∀ t, t ∈ fn.params.toList → CQ C.prog (n + 1) t = true)
   (main : ∀ dss, SS C.prog (n + 1) fn.params.toList dss → Aw C.prog f (Vu C.prog fn.params.toList dss) [] (fun p st' => p = .d (.bool true))) :
   ReturnsInHanded {} C os f .any (s.pre6 enc C.prog fn conds apart) (s.post enc C.prog fn apart fresh false false) := by
 refine returnsInHanded_of_change own started noInit hfn witness ?_
 intro W base args ds gs before hval hW hcnd _
 have hW' := hW
 obtain ⟨p, q, hA, hV, hpq, hfz, hnd⟩ := hW
 obtain ⟨dss, hd1, hd2⟩ := Ae2 (n := n) (base := base) fn.params.toList args.toList ds p hplain hA (fun j t v a b => hval j t v (by simpa using a) (by simpa using b))
 rw [hvars] at hV
 have hgs : gs = [] ∧ q = [] := by
   cases gs with
   | nil => exact ⟨rfl, hV⟩
   | cons g gs => exact hV.elim
 obtain ⟨rfl, rfl⟩ := hgs
 have hlen : ds.length = fn.params.size := by have := (trodAll_length hA).2; simpa using this
 have hS : SRel C.prog W.heap.size W W.cell? (fun _ _ => none) [] W := ⟨Below.refl _ _, Nat.le_refl _, fun a v h => h, fun x c h => (by simp at h), fun x ver v h => (by cases h), fun x y c d b hne h => (by simp at h)⟩
 have hcall := (main dss hd1).2 W.heap.size W W.cell? (fun _ _ => none) W args.toList hS (hd2 _)
 simp only [Array.toArray_toList] at hcall
 refine hcall.mono fun e W' ⟨v, pv, st', M', g', he, _, _, _, hS', hv, hpv⟩ => ?_
 subst hpv
 have hb := hS'.below
 have hv' : v = .bool true := by cases hv with | d h => cases h; rfl
 subst hv'
 refine ⟨_, he, ds, [], before, [], p, [], hW', ?_, ?_, ?_, World.keptBut_mono (fun x hx => hx.elim) (hb.frame (fun _ => False)), fun h => by cases h⟩
 · rw [List.append_nil, hs ds hlen, hres]
   exact trodAll_mk1 (shut_bool htb true)
 · rw [List.append_nil, hs ds hlen]
   have h1 : DataW.TrodAll enc C.prog W' 0 (fun _ => true) true fn.params.toList args.toList ds p := by
     have go : ∀ (ts : List TypeId) (vs : List Value) (ds : List (DataW H)) (ps : List MemPlace), (∀ t, t ∈ ts → CQ C.prog (n + 1) t = true) → DataW.TrodAll enc C.prog W 0 (fun _ => true) true ts vs ds ps → DataW.TrodAll enc C.prog W' 0 (fun _ => true) true ts vs ds ps := by
       intro ts
       induction ts with
       | nil => intro vs ds ps _ h; cases vs <;> cases ds <;> exact h
       | cons t ts ih =>
         intro vs ds ps hp h
         cases vs with
         | nil => cases ds <;> exact h.elim
         | cons v vs =>
           cases ds with
           | nil => exact h.elim
           | cons d ds =>
             obtain ⟨p, q, ⟨fuel, k1⟩, k2, k3⟩ := h
             exact ⟨p, q, ⟨fuel, Si (fun a u hu => by rw [hb.cell (World.block_lt_of_cell? W a hu)]; exact hu) (n + 1) t (hp t (by simp)) fuel _ _ k1⟩, ih vs ds q (fun t ht => hp t (by simp [ht])) k2, k3⟩
     exact go _ _ _ _ hplain hA
   refine DataW.TrodAll.respare At4 Av1 (fun t ht => ⟨_, hplain t ht⟩) h1 (fun x hx => ?_)
   have := hW'.lt x (by rw [hpq]; simp [hx])
   simpa using this
 · rw [List.append_nil, hs ds hlen, hvars]
   rfl
end
end Go.Ax
