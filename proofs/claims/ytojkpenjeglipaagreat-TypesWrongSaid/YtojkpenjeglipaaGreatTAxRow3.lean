import Derived.Test.YtojkpenjeglipaaGreatTAxU
import Derived.ProofKit
import Derived.ChangeCalls
import Derived.ReadAgain
import Derived.OpenShut
import Derived.Handed
import Derived.JoinedOf
set_option linter.unusedSimpArgs false
set_option linter.unusedVariables false
namespace Go.Ax
open Go.RowKit Go.ChangeShapes
def EV (P : Program) (T : List TypeId) (t : TypeId) : Bool := match P.underlying t with
   | some .bool | some (.int _) | some .string => decide (P.cellsOf t = 1)
   | some (.slice e) => decide (P.cellsOf t = 1) && T.contains e && decide (0 < P.cellsOf e)
   | some (.struct fs) => (fs.toList.all fun f => T.contains f.type) && lay P t 0 fs.toList
   | _ => false
where
 lay (P : Program) (t : TypeId) : Nat → List Field → Bool
   | k, [] => decide (P.cellsOf t = k)
   | k, f :: r => decide (f.offset = k) && lay P t (k + P.cellsOf f.type) r
def Bd (P : Program) : Nat → TypeId → List D → Prop
 | 0, _, _ => False
 | n + 1, t, ds => match P.underlying t with
   | some .bool => ∃ b, ds = [.bool b]
   | some (.int k) => ∃ i, ds = [.int k i] ∧ (Lit.int k i).wf = true
   | some .string => ∃ s, ds = [.str s] ∧ s.size ≤ maxLen
   | some (.slice e) => ∃ rows, ds = [.sl rows] ∧ rows.length ≤ maxLen ∧ ∀ row, row ∈ rows → Bd P n e row
   | some (.struct fs) => parts (Bd P n) fs.toList ds
   | _ => False
where
 parts (T : TypeId → List D → Prop) : List Field → List D → Prop
   | [], ds => ds = []
   | f :: r, ds => ∃ a b, ds = a ++ b ∧ T f.type a ∧ parts T r b
def Ac4 (M : Mem) (cs : List Value) (ds : List D) : Prop := cs.length = ds.length ∧ ∀ (j : Nat) (v : Value) (x : D), cs[j]? = some v → ds[j]? = some x → RepD M v x
theorem Ac4.nil (M : Mem) : Ac4 M [] [] := ⟨rfl, fun j v x h => by simp at h⟩
theorem Ac4.one {M : Mem} {v : Value} {x : D} (h : RepD M v x) : Ac4 M [v] [x] := ⟨rfl, fun j u y h1 h2 => by
 cases j with
 | zero => simp at h1 h2; subst h1; subst h2; exact h
 | succ j => simp at h1⟩
theorem Ac4.app {M : Mem} {a b : List Value} {c d : List D} (h : Ac4 M a c) (k : Ac4 M b d) : Ac4 M (a ++ b) (c ++ d) := by
 refine ⟨by simp [h.1, k.1], fun j v x h1 h2 => ?_⟩
 have hl := h.1
 by_cases hj : j < c.length
 · rw [List.getElem?_append_left (by omega)] at h1
   rw [List.getElem?_append_left hj] at h2
   exact h.2 j v x h1 h2
 · rw [List.getElem?_append_right (by omega)] at h1
   rw [List.getElem?_append_right (by omega)] at h2
   rw [hl] at h1
   exact k.2 _ v x h1 h2
section
variable {H : Type} {enc : TypeId × Value → H} {P : Program} {w w' : World} {sp : Nat → Bool} {held : Bool} {T : List TypeId} (hT : ∀ t, t ∈ T → EV P T t = true)
theorem BQ9 {base : Nat} {a : Addr} {n : Nat} {xs : List Value} (h : w.cells? base a n = some xs) : xs.length = n ∧ ∀ j, j < n → w.cell? (a.add j) = xs[j]? := by
 unfold World.cells? at h
 split at h
 · refine ⟨by simpa using mapM_some_length h, fun j hj => mapM_some_get h j j (by simp [hj])⟩
 · cases h
theorem Am7 {t : TypeId} : ∀ (fs : List Field) (k : Nat), EV.lay P t k fs = true → P.cellsOf t = k + (fs.map fun f => P.cellsOf f.type).sum
 | [], k, h => by simpa [EV.lay] using h
 | f :: r, k, h => by
   simp only [EV.lay, Bool.and_eq_true, decide_eq_true_eq] at h
   have := Am7 r _ h.2
   simp only [List.map_cons, List.sum_cons]
   omega
theorem BO8 {t : TypeId} : ∀ (fs : List Field) (k : Nat), EV.lay P t k fs = true → ∀ (j : Nat) f, fs[j]? = some f → f.offset = k + ((fs.take j).map fun f => P.cellsOf f.type).sum
 | [], k, h, j, f, hj => by simp at hj
 | g :: r, k, h, j, f, hj => by
   simp only [EV.lay, Bool.and_eq_true, decide_eq_true_eq] at h
   cases j with
   | zero => simp at hj; subst hj; simpa using h.1
   | succ j =>
     simp at hj
     have := BO8 r _ h.2 j f hj
     simp only [List.take_succ_cons, List.map_cons, List.sum_cons]
     omega
theorem AX3 {α : Type} (q : Nat → α → Prop) : ∀ n : Nat, (∀ i, i < n → ∃ x, q i x) → ∃ l : List α, l.length = n ∧ ∀ i x, l[i]? = some x → q i x
 | 0, _ => ⟨[], rfl, fun i x h => by simp at h⟩
 | n + 1, h => by
   obtain ⟨l, hl, hq⟩ := AX3 q n (fun i hi => h i (by omega))
   obtain ⟨y, hy⟩ := h n (by omega)
   refine ⟨l ++ [y], by simp [hl], fun i x hx => ?_⟩
   by_cases hi : i < n
   · rw [List.getElem?_append_left (by omega)] at hx; exact hq i x hx
   · rw [List.getElem?_append_right (by omega)] at hx
     have : i = n := by
       have := (List.getElem?_eq_some_iff.1 hx).1
       simp at this; omega
     subst this
     simp [hl] at hx; subst hx; exact hy
include hT in
theorem As0 : ∀ (fuel : Nat) (t : TypeId), t ∈ T → ∀ (cs : List Value) (x : DataW H × List MemPlace),
   DataW.trod enc P w 0 sp held fuel t cs = some x → ∃ ds, cs.length = P.cellsOf t ∧ Ac4 w.cell? cs ds ∧ Bd P fuel t ds
 | 0, t, h0, cs, x, ht => by simp [DataW.trod] at ht
 | n + 1, t, h0, cs, x, ht => by
   have h := hT t h0
   unfold EV at h
   cases hu : P.underlying t with
   | none => simp [hu] at h
   | some td =>
     rw [hu] at h
     cases td with
     | bool =>
       obtain ⟨b, rfl, _⟩ := DataW.trod_bool hu ht
       exact ⟨[.bool b], by simpa using (of_decide_eq_true h).symm, Ac4.one (.bool b), by simp [Bd, hu]⟩
     | int k =>
       obtain ⟨i, rfl, _, hw⟩ := DataW.trod_int hu ht
       exact ⟨[.int k i], by simpa using (of_decide_eq_true h).symm, Ac4.one (.int k i), by simp [Bd, hu, hw]⟩
     | string =>
       obtain ⟨s, rfl, _, hs⟩ := DataW.trod_string hu ht
       exact ⟨[.str s], by simpa using (of_decide_eq_true h).symm, Ac4.one (.str s), by simp [Bd, hu, hs]⟩
     | slice e =>
       simp only [Bool.and_eq_true, decide_eq_true_eq] at h
       obtain ⟨⟨h1, h2⟩, h3⟩ := h
       rcases DataW.trod_slice hu ht with ⟨rfl, _⟩ | ⟨a, len, cap, elems, rest, m, hmf, rfl, _, _, hlc, hcap, hel, hget, _, _⟩
       · exact ⟨[.sl []], by simp [h1], Ac4.one .nil, by simp [Bd, hu]⟩
       · obtain rfl : m = n := by omega
         have hrow : ∀ i, i < len → ∃ row, Ac4 w.cell? ((List.range (P.cellsOf e)).map fun j => (w.cell? (a.add (i * P.cellsOf e + j))).getD undef) row ∧ Bd P m e row ∧ (∀ j, j < P.cellsOf e → ∃ u, w.cell? (a.add (i * P.cellsOf e + j)) = some u) := by
           intro i hi
           have hg := hget i hi
           rw [List.getElem?_eq_getElem (by omega)] at hg
           cases hc : w.cells? 0 (a.add (i * P.cellsOf e)) (P.cellsOf e) with
           | none => rw [hc] at hg; cases hg
           | some xs =>
             rw [hc] at hg
             obtain ⟨hx1, hx2⟩ := BQ9 hc
             obtain ⟨ds, q1, q2, q3⟩ := As0 m e (by simpa using h2) xs _ hg
             have hcell : ∀ j, j < P.cellsOf e → w.cell? (a.add (i * P.cellsOf e + j)) = xs[j]? := fun j hj => by rw [← hx2 j hj, Au5]
             have exs : ((List.range (P.cellsOf e)).map fun j => (w.cell? (a.add (i * P.cellsOf e + j))).getD undef) = xs := by
               refine List.ext_getElem? fun j => ?_
               by_cases hj : j < P.cellsOf e
               · rw [List.getElem?_map, List.getElem?_range hj]
                 simp only [Option.map_some]
                 rw [hcell j hj, List.getElem?_eq_getElem (by omega)]
                 rfl
               · rw [List.getElem?_eq_none (by simp; omega), List.getElem?_eq_none (by omega)]
             refine ⟨ds, by rw [exs]; exact q2, q3, fun j hj => ⟨xs[j]'(by omega), by rw [hcell j hj]; exact List.getElem?_eq_getElem _⟩⟩
         obtain ⟨rows, hrl, hrq⟩ := AX3 _ len hrow
         refine ⟨[.sl rows], by simp [h1], Ac4.one ?_, by
           unfold Bd
           rw [hu]
           refine ⟨rows, rfl, by omega, fun row hm => ?_⟩
           obtain ⟨i, hi, rfl⟩ := List.getElem_of_mem hm
           exact (hrq i _ (List.getElem?_eq_getElem hi)).2.1⟩
         rw [← hrl]
         have hlen : ∀ (i : Nat) (row : List D), rows[i]? = some row → row.length = P.cellsOf e := fun i row hr => by
           have := (hrq i row hr).1.1
           simpa using this.symm
         refine .sl a cap (P.cellsOf e) rows (fun i j => (w.cell? (a.add (i * P.cellsOf e + j))).getD undef) (by omega) hlen (fun i row j d hr hd => ?_) (fun i row j d hr hd => ?_)
         · have hj : j < P.cellsOf e := by have := (List.getElem?_eq_some_iff.1 hd).1; have := hlen i row hr; omega
           obtain ⟨u, hu'⟩ := (hrq i row hr).2.2 j hj
           simp only [hu', Option.getD_some]
         · have hj : j < P.cellsOf e := by have := (List.getElem?_eq_some_iff.1 hd).1; have := hlen i row hr; omega
           refine (hrq i row hr).1.2 j _ d ?_ hd
           rw [List.getElem?_map, List.getElem?_range hj]
           rfl
     | struct fs =>
       simp only [Bool.and_eq_true] at h
       obtain ⟨h1, h2⟩ := h
       obtain ⟨xs, m, hmf, _, hcl, hxl, hget⟩ := DataW.trod_struct hu ht
       obtain rfl : m = n := by omega
       have hcells := Am7 fs.toList 0 h2
       have key : ∀ (l : List Field) (k j : Nat), (∀ i f, l[i]? = some f → fs.toList[j + i]? = some f) → EV.lay P t k l = true → k ≤ cs.length → ∃ ds, Ac4 w.cell? (cs.drop k) ds ∧ Bd.parts (Bd P m) l ds := by
         intro l
         induction l with
         | nil =>
           intro k j _ hl hk
           simp only [EV.lay, decide_eq_true_eq] at hl
           refine ⟨[], ?_, rfl⟩
           rw [List.drop_of_length_le (by omega)]
           exact Ac4.nil _
         | cons f r ih =>
           intro k j hj hl hk
           have hl' := hl
           simp only [EV.lay, Bool.and_eq_true, decide_eq_true_eq] at hl
           have hf : fs.toList[j]? = some f := by simpa using hj 0 f (by simp)
           have hp : f.type ∈ T := by simpa using List.all_eq_true.1 h1 f (List.mem_of_getElem? hf)
           have hjl : j < fs.size := by have := (List.getElem?_eq_some_iff.1 hf).1; simpa using this
           have hg := hget j f (by simpa using hf)
           rw [List.getElem?_eq_getElem (by omega), hl.1] at hg
           obtain ⟨ds, q1, q2, q3⟩ := As0 m f.type hp _ _ hg
           have hle : k + P.cellsOf f.type ≤ cs.length := by
             have := Am7 (f :: r) k hl'
             simp only [List.map_cons, List.sum_cons] at this
             omega
           obtain ⟨ds2, p1, p2⟩ := ih (k + P.cellsOf f.type) (j + 1) (fun i g hg => by have := hj (i + 1) g (by simpa using hg); rw [← this]; congr 1; omega) hl.2 hle
           refine ⟨ds ++ ds2, ?_, ds, ds2, rfl, q3, p2⟩
           have := q2.app p1
           rw [← List.drop_drop, List.take_append_drop] at this
           exact this
       obtain ⟨ds, q1, q2⟩ := key fs.toList 0 0 (fun i f hi => by simpa using hi) h2 (by omega)
       refine ⟨ds, hcl, by simpa using q1, by unfold Bd; rw [hu]; exact q2⟩
     | _ => simp at h
include hT in
theorem Ar8 (hM : ∀ a v, w.cell? a = some v → w'.cell? a = some v) : ∀ (fuel : Nat) (t : TypeId), t ∈ T → ∀ (cs : List Value) (x : DataW H × List MemPlace),
   DataW.trod enc P w 0 sp held fuel t cs = some x → DataW.trod enc P w' 0 sp held fuel t cs = some x
 | 0, t, h0, cs, x, ht => by simp [DataW.trod] at ht
 | fuel + 1, t, h0, cs, x, ht => by
   have h := hT t h0
   unfold EV at h
   have hcells : ∀ (a : Addr) (k : Nat) (xs : List Value), w.cells? 0 a k = some xs → w'.cells? 0 a k = some xs := fun a k xs hc => by
     unfold World.cells? at hc ⊢
     split at hc
     · rename_i h0
       rw [if_pos h0]
       exact mapM_mono (fun i y hy => hM _ _ hy) hc
     · cases hc
   cases hu : P.underlying t with
   | none => simp [hu] at h
   | some td =>
     rw [hu] at h
     cases td with
     | bool => obtain ⟨b, rfl, rfl⟩ := DataW.trod_bool hu ht; simp [DataW.trod, hu]
     | int k => obtain ⟨i, rfl, rfl, hw⟩ := DataW.trod_int hu ht; simp [DataW.trod, hu, hw]
     | string => obtain ⟨s, rfl, rfl, hs⟩ := DataW.trod_string hu ht; simp [DataW.trod, hu, hs]
     | slice e =>
       simp only [Bool.and_eq_true, decide_eq_true_eq] at h
       obtain ⟨⟨h1, h2⟩, h3⟩ := h
       have hel : ∀ (a : Addr) (i : Nat) (y : DataW H × List MemPlace), (w.cells? 0 (a.add (i * P.cellsOf e)) (P.cellsOf e)).bind (DataW.trod enc P w 0 sp held fuel e) = some y → (w'.cells? 0 (a.add (i * P.cellsOf e)) (P.cellsOf e)).bind (DataW.trod enc P w' 0 sp held fuel e) = some y := fun a i y hy => by
         cases hc : w.cells? 0 (a.add (i * P.cellsOf e)) (P.cellsOf e) with
         | none => rw [hc] at hy; cases hy
         | some xs =>
           rw [hc] at hy
           rw [hcells _ _ _ hc]
           exact Ar8 hM fuel e (by simpa using h2) xs y hy
       rcases DataW.trod_slice hu ht with ⟨rfl, rfl⟩ | ⟨a, len, cap, elems, rest, m, hm, rfl, rfl, _, hlc, hcap, _⟩
       · simp [DataW.trod, hu]
       · simp only [DataW.trod, hu] at ht ⊢
         split at ht
         · rename_i hc
           rw [if_pos hc]
           cases he : (List.range len).mapM (fun i => (w.cells? 0 (a.add (i * P.cellsOf e)) (P.cellsOf e)).bind (DataW.trod enc P w 0 sp held fuel e)) with
           | none => rw [he] at ht; cases ht
           | some els =>
             rw [he] at ht
             rw [mapM_mono (fun i y hy => hel a i y hy) he]
             simp only [Option.bind_some] at ht ⊢
             split at ht
             · rename_i hs
               rw [if_pos hs]
               cases hr : (List.range (cap - len)).mapM (fun j => (w.cells? 0 (a.add ((len + j) * P.cellsOf e)) (P.cellsOf e)).bind (DataW.trod enc P w 0 sp held fuel e)) with
               | none => rw [hr] at ht; cases ht
               | some rs =>
                 rw [hr] at ht
                 rw [mapM_mono (fun j y hy => hel a (len + j) y hy) hr]
                 exact ht
             · rename_i hs
               rw [if_neg hs]
               exact ht
         · cases ht
     | struct fs =>
       simp only [Bool.and_eq_true] at h
       unfold DataW.trod at ht ⊢
       rw [hu] at ht ⊢
       simp only at ht ⊢
       split at ht
       · rename_i hc
         rw [if_pos hc]
         cases hx : fs.toList.mapM (fun f => DataW.trod enc P w 0 sp held fuel f.type ((cs.drop f.offset).take (P.cellsOf f.type))) with
         | none => rw [hx] at ht; cases ht
         | some xs =>
           rw [hx] at ht
           rw [mapM_mem_mono (fun f hf y hy => Ar8 hM fuel f.type (by simpa using List.all_eq_true.1 h.1 f hf) _ y hy) hx]
           exact ht
       · cases ht
     | _ => simp at h
where
 mapM_mem_mono {α β : Type} {f g : α → Option β} : ∀ {l : List α}, (∀ x, x ∈ l → ∀ y, f x = some y → g x = some y) → ∀ {r : List β}, l.mapM f = some r → l.mapM g = some r
   | [], _, r, h => by simpa using h
   | a :: l, hfg, r, h => by
     rw [List.mapM_cons] at h ⊢
     cases ha : f a with
     | none => rw [ha] at h; cases h
     | some b =>
       rw [ha] at h
       rw [hfg a (by simp) b ha]
       cases hl : l.mapM f with
       | none => rw [hl] at h; cases h
       | some bs =>
         rw [hl] at h
         rw [mapM_mem_mono (fun x hx => hfg x (by simp [hx])) hl]
         exact h
end
theorem BL2 {P : Program} {T : List TypeId} (hT : ∀ t, t ∈ T → EV P T t = true) : Kids P (fun t => t ∈ T) where
 pointer := fun {t e} h hu => by have := hT t h; simp [EV, hu] at this
 slice := fun {t e} h hu => by have := hT t h; simp only [EV, hu, Bool.and_eq_true] at this; simpa using this.1.2
 array := fun {t e k} h hu => by have := hT t h; simp [EV, hu] at this
 struct := fun {t fs} h hu => by
   have := hT t h
   simp only [EV, hu, Bool.and_eq_true] at this
   refine ⟨fun f hf => by simpa using List.all_eq_true.1 this.1 f hf, by simpa using Am7 fs.toList 0 this.2, fun j f hj => by simpa using BO8 fs.toList 0 this.2 j f hj⟩
 map := fun {t k e} h hu => by have := hT t h; simp [EV, hu] at this
theorem BK9 {P : Program} {T : List TypeId} (hT : ∀ t, t ∈ T → EV P T t = true) : ∀ t e, t ∈ T → P.underlying t = some (.slice e) → 0 < P.cellsOf e := fun t e h hu => by
 have := hT t h
 simp only [EV, hu, Bool.and_eq_true, decide_eq_true_eq] at this; exact this.2
def Bt4 (P : Program) (t : TypeId) (ds : List D) : PV := match P.underlying t, ds with
 | some (.struct _), ds => .agg (ds.map .d)
 | _, [d] => .d d
 | _, _ => .undef
def AJ4 (P : Program) : List TypeId → List (List D) → Prop
 | [], ds => ds = []
 | t :: ts, dss => ∃ d r, dss = d :: r ∧ (∃ n, Bd P n t d) ∧ AJ4 P ts r
def AO9 (P : Program) : List TypeId → List (List D) → List PV
 | t :: ts, d :: ds => Bt4 P t d :: AO9 P ts ds
 | _, _ => []
theorem BM7 {P : Program} {w : World} {base : Nat} {t : TypeId} {v : Value} {T : List TypeId} (hp : EV P T t = true) (h : Value.okWide P w .any base t v) :
   (∃ fs cs, P.underlying t = some (.struct fs) ∧ v = .agg cs) ∨ ((∀ fs, P.underlying t ≠ some (.struct fs)) ∧ v.cells = #[v]) := by
 unfold EV at hp
 unfold Value.okWide at h
 cases hu : P.underlying t with
 | none => simp [hu] at hp
 | some td =>
   rw [hu] at hp h
   cases td with
   | struct fs => obtain ⟨cs, rfl, _⟩ := h; exact .inl ⟨fs, cs, rfl, rfl⟩
   | bool => refine .inr ⟨fun fs e => (by cases e), ?_⟩; cases v <;> simp_all [Cell.okWide, Cell.ok, Value.cells]
   | int k => refine .inr ⟨fun fs e => (by cases e), ?_⟩; cases v <;> simp_all [Cell.okWide, Cell.ok, Value.cells]
   | string => refine .inr ⟨fun fs e => (by cases e), ?_⟩; cases v <;> simp_all [Cell.okWide, Cell.ok, Value.cells]
   | slice e => refine .inr ⟨fun fs e => (by cases e), ?_⟩; cases v <;> simp_all [Cell.okWide, Cell.ok, Value.cells]
   | _ => simp at hp
section
variable {H : Type} {enc : TypeId × Value → H} {P : Program} {w : World} {T : List TypeId}
theorem Bq9 (hT : ∀ t, t ∈ T → EV P T t = true) {base : Nat} : ∀ (ts : List TypeId) (vs : List Value) (ds : List (DataW H)) (ps : List MemPlace), (∀ t, t ∈ ts → t ∈ T) → DataW.TrodAll enc P w 0 (fun _ => true) true ts vs ds ps →
   (∀ (j : Nat) t v, ts[j]? = some t → vs[j]? = some v → Value.okWide P w .any base t v) → ∃ dss, AJ4 P ts dss ∧ ∀ g, CK w.cell? g vs (AO9 P ts dss)
 | [], [], ds, ps, hp, h, hv => ⟨[], rfl, fun g => CK.nil _ _⟩
 | [], v :: vs, [], ps, hp, h, hv => h.elim
 | [], v :: vs, d :: ds, ps, hp, h, hv => h.elim
 | t :: ts, [], ds, ps, hp, h, hv => by cases ds <;> exact h.elim
 | t :: ts, v :: vs, [], ps, hp, h, hv => h.elim
 | t :: ts, v :: vs, d :: ds, ps, hp, h, hv => by
   obtain ⟨p, q, ⟨fuel, h1⟩, h2, _⟩ := h
   obtain ⟨dss, k1, k2⟩ := Bq9 hT ts vs ds q (fun t ht => hp t (by simp [ht])) h2 (fun j t v a b => hv (j + 1) t v (by simpa using a) (by simpa using b))
   have hpt := hp t (by simp)
   obtain ⟨dd, e1, e2, e3⟩ := As0 hT fuel t hpt _ _ h1
   refine ⟨dd :: dss, ⟨dd, dss, rfl, ⟨_, e3⟩, k1⟩, fun g => CK.cons ?_ (k2 g)⟩
   rcases BM7 (hT t hpt) (hv 0 t v rfl rfl) with ⟨fs, cs, hu, rfl⟩ | ⟨hu, hc⟩
   · have : Bt4 P t dd = .agg (dd.map .d) := by unfold Bt4; rw [hu]
     rw [this]
     have h2 := RepV.agg (M := w.cell?) (g := g) cs.toList (dd.map .d) (by simpa [Value.cells] using e2.1) (fun i u x hu hx => by
       rw [List.getElem?_map] at hx
       cases hd : dd[i]? with
       | none => rw [hd] at hx; cases hx
       | some y => rw [hd] at hx; simp at hx; subst hx; exact .d (e2.2 i u y (by simpa [Value.cells] using hu) hd))
     simpa using h2
   · rw [hc] at e2
     have hl := e2.1
     match dd, hl with
     | [y], _ =>
       have : Bt4 P t [y] = .d y := by
         unfold Bt4
         cases hu2 : P.underlying t with
         | none => rfl
         | some td => cases td <;> first | rfl | exact absurd hu2 (hu _)
       rw [this]
       exact .d (e2.2 0 v y rfl rfl)
theorem law_lift {C : Checked} {os : Os} {f tb : FuncId} {fn : Func} {s : ChangeSpec} {conds : List PathCond} {apart fresh : Bool} {T : List TypeId}
   (own : ownKnob C.prog.godebug = none) (started : os.Started) (noInit : C.prog.inits.idxOf? f = none) (hfn : C.prog.funcs[f]? = some fn)
   (witness : ∃ (w : World) (tape : Tape) (i : Input), w.os = os ∧ (w.forCall tape i).Shaped C.prog ∧ i.vars = [] ∧ Input.okWide C.prog (w.forCall tape i) .any w.heap.size f i ∧
     s.pre6 enc C.prog fn conds apart (w.forCall tape i).memory i.args ∧ ({} : Assume).holds C.prog (lone (Frame.enter C.prog f i.args .normal) [] (w.forCall tape i)))
   (hvars : s.vars = []) (hs : ∀ ds : List (DataW H), ds.length = fn.params.size → s.fn H ds = { results := [.lit (.bool true)], args := ds })
   (hres : fn.resultTypes = #[tb]) (htb : C.prog.underlying tb = some .bool)
   (hT : T.all (EV C.prog T) = true) (hplain : fn.params.toList.all (fun t => T.contains t) = true)
   (main : ∀ dss, AJ4 C.prog fn.params.toList dss → Aw C.prog f (AO9 C.prog fn.params.toList dss) [] (fun p st' => p = .d (.bool true))) :
   ReturnsInHanded {} C os f .any (s.pre6 enc C.prog fn conds apart) (s.post enc C.prog fn apart fresh false false) := by
 replace hT : ∀ t, t ∈ T → EV C.prog T t = true := fun t h => List.all_eq_true.1 hT t h
 replace hplain : ∀ t, t ∈ fn.params.toList → t ∈ T := fun t h => by simpa using List.all_eq_true.1 hplain t h
 refine returnsInHanded_of_change own started noInit hfn witness ?_
 intro W base args ds gs before hval hW hcnd _
 have hW' := hW
 obtain ⟨p, q, hA, hV, hpq, hfz, hnd⟩ := hW
 obtain ⟨dss, hd1, hd2⟩ := Bq9 hT (base := base) fn.params.toList args.toList ds p hplain hA (fun j t v a b => hval j t v (by simpa using a) (by simpa using b))
 rw [hvars] at hV
 have hgs : gs = [] ∧ q = [] := by
   cases gs with
   | nil => exact ⟨rfl, hV⟩
   | cons g gs => exact hV.elim
 obtain ⟨rfl, rfl⟩ := hgs
 have hlen : ds.length = fn.params.size := by have := (trodAll_length hA).2; simpa using this
 have hS : SRel C.prog W.heap.size W W.cell? (fun _ _ => none) [] W := ⟨Below.refl _ _, Nat.le_refl _, fun a v h => h, fun x c h => (by simp at h), fun x ver v h => (by cases h), fun x y c d b hne h => (by simp at h)⟩
 have hcall := (main dss hd1).2 W.heap.size W W.cell? (fun _ _ => none) W args.toList hS (hd2 _)
 simp only [Array.toArray_toList] at hcall
 refine hcall.mono fun e W' ⟨v, pv, st', M', g', he, _, _, _, hS', hv, hpv⟩ => ?_
 subst hpv
 have hb := hS'.below
 have hv' : v = .bool true := by cases hv with | d h => cases h; rfl
 subst hv'
 refine ⟨_, he, ds, [], before, [], p, [], hW', ?_, ?_, ?_, World.keptBut_mono (fun x hx => hx.elim) (hb.frame (fun _ => False)), fun h => by cases h⟩
 · rw [List.append_nil, hs ds hlen, hres]
   exact trodAll_mk1 (shut_bool htb true)
 · rw [List.append_nil, hs ds hlen]
   have h1 : DataW.TrodAll enc C.prog W' 0 (fun _ => true) true fn.params.toList args.toList ds p := by
     have go : ∀ (ts : List TypeId) (vs : List Value) (ds : List (DataW H)) (ps : List MemPlace), (∀ t, t ∈ ts → t ∈ T) → DataW.TrodAll enc C.prog W 0 (fun _ => true) true ts vs ds ps → DataW.TrodAll enc C.prog W' 0 (fun _ => true) true ts vs ds ps := by
       intro ts
       induction ts with
       | nil => intro vs ds ps _ h; cases vs <;> cases ds <;> exact h
       | cons t ts ih =>
         intro vs ds ps hp h
         cases vs with
         | nil => cases ds <;> exact h.elim
         | cons v vs =>
           cases ds with
           | nil => exact h.elim
           | cons d ds =>
             obtain ⟨p, q, ⟨fuel, k1⟩, k2, k3⟩ := h
             exact ⟨p, q, ⟨fuel, Ar8 hT (fun a u hu => by rw [hb.cell (World.block_lt_of_cell? W a hu)]; exact hu) fuel t (hp t (by simp)) _ _ k1⟩, ih vs ds q (fun t ht => hp t (by simp [ht])) k2, k3⟩
     exact go _ _ _ _ hplain hA
   refine DataW.TrodAll.respare (BL2 hT) (BK9 hT) (fun t ht => hplain t ht) h1 (fun x hx => ?_)
   have := hW'.lt x (by rw [hpq]; simp [hx])
   simpa using this
 · rw [List.append_nil, hs ds hlen, hvars]
   rfl
end
end Go.Ax
namespace Go.Ax
theorem Ds {a b : Bool} (h : a = true) (k : b = true) : (a && b) = true := by rw [h, k]; rfl
theorem BS6 {P : Program} {f : FuncId} {fn : Func} {s : ChangeSpec} {c : OpenClaim}
 (h1 : c.wf (OpenSpec.ofChange s) = true) (h2 : laidOutB P = true) (h3 : mapsRowed P = true)
 (h4 : fn.params.all (P.readableRec ·) = true) (h5 : namedTie P c.named s.vars = true)
 (h6 : (c.stops == []) = true) (h7 : (P.stops == []) = true) (h8 : (c.knobs == []) = true) (h9 : (P.stopKnobs == []) = true)
 (h10 : (c.inPlace == P.inPlace f) = true) (h11 : (c.unfollowed == P.unfollowed f) = true) (h12 : (c.recurses == P.recurses f) = true) (h13 : (c.named == P.varsNamed f) = true)
 (h14 : (c.maps == (fn.params.toList ++ s.plain.varTypes P).any (P.mapsRec ·)) = true) (h15 : (c.ifaces == (fn.params.toList ++ s.plain.varTypes P).any (P.ifacesRec ·)) = true) (h16 : (c.mapsOut == P.mapsAmong fn.resultTypes.toList) = true)
 (h17 : (c.loops == (fn.params.toList ++ s.plain.varTypes P).any (P.loopsFrom ·)) = true) (h18 : (c.wideKeys == (fn.params.toList ++ s.plain.varTypes P ++ fn.resultTypes.toList).any (P.wideKeysFrom ·)) = true)
 (h19 : s.vars.all (P.varReadable ·) = true) (h20 : fn.resultTypes.all (fun t => P.readableRec t && decide (t < P.types.size)) = true) (h21 : (c.ifacesOut == fn.resultTypes.toList.any (P.ifacesRec ·)) = true) (h22 : (c.loopsOut == fn.resultTypes.toList.any (P.loopsFrom ·)) = true) (h23 : (c.plainKeys == P.plainKeys) = true) (h24 : c.shortTexts.isNone = true) (h25 : P.stopsHeard = true) (h26 : P.mayEnter = true) (h27 : (c.lifted == P.liftsFinal) = true) (h28 : (P.make == some c.make) = true) (h29 : (c.kinds == (if c.domain.isEmpty then [] else fn.params.toList.map fun t => match P.underlying t with | some (.int k) => some k | _ => none)) = true) (h30 : (c.pinned == c.pinnedBy) = true)
 (h31 : (c.veiled == (fn.params.toList ++ s.plain.varTypes P ++ fn.resultTypes.toList).any (P.veiledRec ·)) = true) (h32 : c.veiledFits P fn.params.toList (fn.params.toList ++ s.plain.varTypes P ++ fn.resultTypes.toList) = true) : joinedFacts P f fn s c = true := by
 unfold joinedFacts
 exact (Ds (Ds (Ds (Ds (Ds (Ds (Ds (Ds (Ds (Ds (Ds (Ds (Ds (Ds (Ds (Ds (Ds (Ds (Ds (Ds (Ds (Ds (Ds (Ds (Ds (Ds (Ds (Ds (Ds (Ds (Ds h1 h2) h3) h4) h5) h6) h7) h8) h9) h10) h11) h12) h13) h14) h15) h16) h17) h18) h19) h20) h21) h22) h23) h24) h25) h26) h27) h28) h29) h30) h31) h32)
end Go.Ax
