import Derived.Test.YtojkpenjeglipaaGreatTAxVc
set_option linter.unusedVariables false
namespace Go.Ax
open Go.RowKit
def BP2 (w : World) (v : Value) (n : Nat) (xs : List Value) : Prop :=
 (v = .slice none 0 0 ∧ n = 0 ∧ xs = []) ∨ ∃ a cap, v = .slice (some a) n cap ∧ n ≤ cap ∧ ∀ j u, xs[j]? = some u → w.cell? (a.add j) = some u
theorem PX.append {M : Mem} {size : Nat} {xs ys : List Value} {rows more : List (List D)} (hl : xs.length = rows.length * size) (h : PX M size xs rows) (k : PX M size ys more) : PX M size (xs ++ ys) (rows ++ more) := by
 intro i row hr
 by_cases hi : i < rows.length
 · rw [List.getElem?_append_left hi] at hr
   obtain ⟨h1, h2⟩ := h i row hr
   refine ⟨h1, fun j d hj => ?_⟩
   obtain ⟨u, e1, e2⟩ := h2 j d hj
   exact ⟨u, by rw [List.getElem?_append_left (List.getElem?_eq_some_iff.1 e1).1]; exact e1, e2⟩
 · rw [List.getElem?_append_right (by omega)] at hr
   obtain ⟨h1, h2⟩ := k _ row hr
   refine ⟨h1, fun j d hj => ?_⟩
   obtain ⟨u, e1, e2⟩ := h2 j d hj
   have e : i * size + j = xs.length + ((i - rows.length) * size + j) := by
     rw [hl, Nat.sub_mul]
     have : rows.length * size ≤ i * size := Nat.mul_le_mul_right _ (by omega)
     omega
   exact ⟨u, by rw [e, List.getElem?_append_right (by omega)]; simpa using e1, e2⟩
theorem RepD.cells {P : Program} {B : Nat} {w0 : World} {M : Mem} {g : Nam} {st : List Content} {w : World} (h : SRel P B w0 M g st w) {v : Value} {rows : List (List D)} (hv : RepD M v (.sl rows)) {size : Nat} (hs : 0 < size)
   (hz : ∀ row, row ∈ rows → row.length = size) : ∃ xs, xs.length = rows.length * size ∧ BP2 w v rows.length xs ∧ PX M size xs rows := by
 cases hv with
 | nil => exact ⟨[], by simp, .inl ⟨rfl, rfl, rfl⟩, fun i row hr => by simp at hr⟩
 | sl a cap size' rows val hc hs' hm hr =>
   have hsame : ∀ i, i < rows.length → size' = size := fun i hi => by
     have := hs' i rows[i] (List.getElem?_eq_getElem hi)
     rw [← this]
     exact hz _ (List.getElem_mem hi)
   refine ⟨(List.range (rows.length * size)).map (fun k => val (k / size) (k % size)), by simp, .inr ⟨a, cap, rfl, hc, fun k u hk => ?_⟩, fun i row hrow => ?_⟩
   · simp only [List.getElem?_map, List.getElem?_range] at hk
     have hk2 : k < rows.length * size := by
       by_cases hlt : k < rows.length * size
       · exact hlt
       · rw [List.getElem?_eq_none (by simp; omega)] at hk; simp at hk
     rw [List.getElem?_eq_getElem (by simpa using hk2)] at hk
     simp at hk
     have hi : k / size < rows.length := (Nat.div_lt_iff_lt_mul hs).2 hk2
     have hj : k % size < size := Nat.mod_lt _ hs
     have hrl : rows[k / size].length = size := hz _ (List.getElem_mem hi)
     have hm' := hm (k / size) rows[k / size] (k % size) rows[k / size][k % size] (List.getElem?_eq_getElem hi) (List.getElem?_eq_getElem (by omega))
     rw [hsame _ hi, show k / size * size + k % size = k by rw [Nat.mul_comm]; exact Nat.div_add_mod k size] at hm'
     rw [hk] at hm'
     exact h.mem _ _ hm'
   · have hi : i < rows.length := (List.getElem?_eq_some_iff.1 hrow).1
     have hrl : row.length = size := hz row (List.mem_of_getElem? hrow)
     refine ⟨hrl, fun j d hj => ?_⟩
     have hj2 : j < size := by have := (List.getElem?_eq_some_iff.1 hj).1; omega
     have hlt : i * size + j < rows.length * size := by
       have : (i + 1) * size ≤ rows.length * size := Nat.mul_le_mul_right _ hi
       rw [Nat.add_mul] at this
       omega
     have e1 : (i * size + j) / size = i := by rw [Nat.mul_comm, Nat.mul_add_div hs, Nat.div_eq_of_lt hj2, Nat.add_zero]
     have e2 : (i * size + j) % size = j := by rw [Nat.mul_comm, Nat.mul_add_mod, Nat.mod_eq_of_lt hj2]
     refine ⟨val i j, ?_, hr i row j d hrow hj⟩
     rw [List.getElem?_map, List.getElem?_eq_getElem (by simpa using hlt)]
     simp [e1, e2]
theorem Bv5 {P : Program} {B : Nat} {w0 : World} {M : Mem} {g : Nam} {st : List Content} {w : World} (h : SRel P B w0 M g st w) {v : Value} {p : PV} (hv : RepV M g v p) {rows : List (List D)} (hr : A4 st p = some rows) {size : Nat} (hs : 0 < size)
   (hz : ∀ row, row ∈ rows → row.length = size) : ∃ xs, xs.length = rows.length * size ∧ BP2 w v rows.length xs ∧ PX M size xs rows := by
 cases hv with
 | d hd =>
   rename_i x
   cases x with
   | sl r => simp [A4] at hr; subst hr; exact hd.cells h hs hz
   | _ => simp [A4] at hr
 | exnil => simp [A4] at hr; subst hr; exact (RepD.nil (M := M)).cells h hs hz
 | ex a r hd => simp [A4] at hr; subst hr; exact hd.cells h hs hz
 | own hg h1 =>
   rename_i t ver fl
   simp only [A4] at hr
   cases ht : st[t]? with
   | none => simp [ht] at hr
   | some c =>
     cases c with
     | row e ver' rows' =>
       simp only [ht] at hr
       split at hr
       case isFalse => cases hr
       rename_i hver
       subst hver
       simp at hr
       subst hr
       obtain ⟨v', fl', size', e1, e2, e3, e4⟩ := h.cont t _ ht
       rw [hg] at e1
       cases e1
       rcases e4 with ⟨rfl, xs, h4, h5, h6⟩ | ⟨rfl, h5, a, hv, h6⟩
       · have hzz : rows'.length ≠ 0 → size' = size := fun hne => by
           have hi : 0 < rows'.length := by omega
           rw [← (h5 0 rows'[0] (List.getElem?_eq_getElem hi)).1]
           exact hz _ (List.getElem_mem hi)
         have hl : xs.length = rows'.length * size := by
           rw [h4.1]
           by_cases hne : rows'.length = 0
           · rw [hne]; simp
           · rw [hzz hne]
         refine ⟨xs, hl, ?_, fun i row hr => ?_⟩
         · rcases h4.2 with ⟨rfl, hn⟩ | ⟨b, cap, cur, rfl, hB, hh, hcap, hmax, hsz, htk⟩
           · exact .inl ⟨rfl, hn, List.eq_nil_of_length_eq_zero (by rw [hl, hn]; simp)⟩
           · refine .inr ⟨⟨b, 0, none⟩, cap, rfl, hcap, fun j u hj => ?_⟩
             exact h4.cells (g := b) (by simp [Value.ownBlock]) j u hj
         · have := h5 i row hr
           rw [← hzz (by have := (List.getElem?_eq_some_iff.1 hr).1; omega)]
           exact this
       · exact h6.cells h hs hz
     | dead => simp [ht] at hr
     | fresh => simp [ht] at hr
     | box _ => simp [ht] at hr
     | map _ _ _ => simp [ht] at hr
 | _ => simp [A4] at hr
theorem Oi {P : Program} (w : World) (t ty e : TypeId) (i : TypeInfo) (ht : P.underlying t = some (.slice e)) (hi : P.info? e = some i) (base : Option Addr) (n cap : Nat) (h : n ≤ cap) :
   (Builtin.append_ #[t, t] ty #[.slice base n cap, .slice none 0 0]).run P w = .ok (.slice base n cap) w := by
 cases base with
 | none => simp [Builtin.append_, run_underlying ht, sizeOf, typeInfo, hi, Builtin.lenOf, h, Builtin.firstCells]
 | some a => simp [Builtin.append_, run_underlying ht, sizeOf, typeInfo, hi, Builtin.lenOf, h, Builtin.firstCells, storeCells]
theorem LE {P : Program} (w : World) (t ty e : TypeId) (i : TypeInfo) (ht : P.underlying t = some (.slice e)) (hi : P.info? e = some i) (base : Option Addr) (n cap : Nat) (h : n ≤ cap) (a : Addr) (c : Nat) :
   (Builtin.append_ #[t, t] ty #[.slice base n cap, .slice (some a) 0 c]).run P w = .ok (.slice base n cap) w := by
 cases base with
 | none => simp [Builtin.append_, run_underlying ht, sizeOf, typeInfo, hi, Builtin.lenOf, h, Builtin.firstCells, loadCells, loadCellsFrom]
 | some b => simp [Builtin.append_, run_underlying ht, sizeOf, typeInfo, hi, Builtin.lenOf, h, Builtin.firstCells, loadCells, loadCellsFrom, storeCells]
theorem SRel.bump {P : Program} {B : Nat} {w0 : World} {M : Mem} {g : Nam} {st : List Content} {w : World} (h : SRel P B w0 M g st w) {t : Nat} {e : TypeId} {ver : Nat} {rows : List (List D)} (ht : st[t]? = some (.row e ver rows))
   {v : Value} {fl : Bool} (hg : g t ver = some (v, fl)) : SRel P B w0 M (g.put t (ver + 1) (v, fl)) (st.set t (.row e (ver + 1) rows)) w ∧ NLe st.length g (g.put t (ver + 1) (v, fl)) := by
 obtain ⟨v', fl', size, e1, e2, e3, e4⟩ := h.cont t _ ht
 rw [hg] at e1
 cases e1
 have hle : ∀ u q, g t u = some q → (g.put t (ver + 1) (v, fl)) t u = some q := fun u q hu => by
   have : u ≠ ver + 1 := fun hh => by rw [hh, e2 _ (by omega)] at hu; cases hu
   simp [Nam.put, this, hu]
 refine h.write ht (w' := w) ⟨rfl, rfl, rfl, Nat.le_refl _, fun _ _ _ => rfl⟩ (fun y hy u => by simp [Nam.put, hy]) hle (fun a u e' _ => h.mem a u e') ?_ (fun b hb => ?_)
 · exact ⟨v, fl, size, by simp [Nam.put], fun u hu => by simp only [Nam.put]; rw [if_neg (by omega)]; exact e2 u (by omega), e3, e4⟩
 · left
   simp [Bl, Nam.put] at hb
   simp [Bl, hg]
   exact hb
theorem BW1 {n m bytes : Nat} (hb : 0 < bytes) (h : (n + m) * bytes ≤ 140737488355328) : n + m ≤ 140737488355328 := Nat.le_trans (Nat.le_mul_of_pos_right _ hb) h
theorem SRel.relay {P : Program} {B : Nat} {w0 : World} {M : Mem} {g : Nam} {st : List Content} {w : World} (h : SRel P B w0 M g st w) {t : Nat} {e : TypeId} {ver : Nat} {rows rows' : List (List D)} (ht : st[t]? = some (.row e ver rows))
   {size : Nat} (hsize : (P.info? e).map (·.size) = some size) (xs rest : List Value) (cap : Nat) (hl : xs.length = rows'.length * size) (hcap : rows'.length ≤ cap) (hmax : cap ≤ maxLen) (hsz : (xs ++ rest).length = cap * size) (hr : PX M size xs rows') :
   ∃ g', NLe st.length g g' ∧ SRel P B w0 M g' (st.set t (.row e (ver + 1) rows')) (w.drew.alloc (.cells (xs ++ rest).toArray e)) ∧ g' t (ver + 1) = some (.slice (some ⟨w.heap.size, 0, none⟩) rows'.length cap, true) := by
 obtain ⟨v', fl', size', e1, e2, e3, e4⟩ := h.cont t _ ht
 have hle : ∀ u q, g t u = some q → (g.put t (ver + 1) (.slice (some ⟨w.heap.size, 0, none⟩) rows'.length cap, true)) t u = some q := fun u q hu => by
   have : u ≠ ver + 1 := fun hh => by rw [hh, e2 _ (by omega)] at hu; cases hu
   simp [Nam.put, this, hu]
 have hgr : ∀ row, w.grownBy (w.drew.alloc (.cells (xs ++ rest).toArray e)) row := fun row => ⟨rfl, rfl, rfl, by simp, fun k hk _ => Bd3 w.drew _ k hk⟩
 have hout := h.write ht (w' := w.drew.alloc (.cells (xs ++ rest).toArray e)) (g' := g.put t (ver + 1) (.slice (some ⟨w.heap.size, 0, none⟩) rows'.length cap, true)) (c' := .row e (ver + 1) rows') (hgr _) (fun y hy u => by simp [Nam.put, hy]) hle
   (fun a u e' _ => by rw [World.cell?_of_block (Bd3 w.drew _ _ (PN h e'))]; exact h.mem a u e')
   ⟨_, true, size, by simp [Nam.put], fun u hu => by simp only [Nam.put]; rw [if_neg (by omega)]; exact e2 u (by omega), hsize,
     .inl ⟨rfl, xs, ⟨hl, .inr ⟨w.heap.size, cap, (xs ++ rest).toArray, rfl, h.hB, Bd7 w.drew _, hcap, hmax, by simpa using hsz, by rw [← hl]; simp⟩⟩, hr, fun b hb a ha hne => by
       simp [Value.ownBlock] at hb
       cases e' : M a with
       | none => exact absurd e' hne
       | some u => have := PN h e'; omega⟩⟩
   (fun b hb => by right; simp [Bl, Nam.put, Value.ownBlock] at hb; omega)
 exact ⟨_, hout.2, hout.1, by simp [Nam.put]⟩
theorem SRel.append_own {P : Program} {B : Nat} {w0 : World} {M : Mem} {g : Nam} {st : List Content} {w : World} (h : SRel P B w0 M g st w) {t : Nat} {e : TypeId} {ver : Nat} {rows ys : List (List D)} (ht : st[t]? = some (.row e ver rows))
   {v vy : Value} {fl : Bool} (hg : g t ver = some (v, fl)) {py : PV} (hy : RepV M g vy py) (hys : A4 st py = some ys) (T ty : TypeId) (hT : P.underlying T = some (.slice e)) (i : TypeInfo) (hi : P.info? e = some i) (z : Value) (hz : i.zero = some z)
   (hzs : z.cells.size = i.size) (hs0 : 0 < i.size) (hb0 : 0 < i.bytes) (hyl : ∀ row, row ∈ ys → row.length = i.size) (hbound : (rows.length + ys.length) * i.bytes ≤ 140737488355328) :
   ∃ v' fl' w' g', (Builtin.append_ #[T, T] ty #[v, vy]).run P w = .ok v' w' ∧ NLe st.length g g' ∧ SRel P B w0 M g' (st.set t (.row e (ver + 1) (rows ++ ys))) w' ∧ g' t (ver + 1) = some (v', fl') ∧ v'.oneCell' = true := by
 obtain ⟨ns, hnl, hnc, hnr⟩ := Bv5 h hy hys hs0 hyl
 obtain ⟨v', fl', size, e1, e2, e3, e4⟩ := h.cont t _ ht
 rw [hg] at e1
 cases e1
 have hsize : size = i.size := by rw [hi] at e3; simpa using e3.symm
 subst hsize
 have hnm := BW1 hb0 hbound
 have hcap63 : ∀ old, grownCap w (rows.length + ys.length) old e ≤ maxLen := fun old => grownCap_le_maxLen w _ _ e (by simp only [maxLen]; omega)
 -- nothing appended
 have same : ys.length = 0 → (Builtin.append_ #[T, T] ty #[v, vy]).run P w = .ok v w → v.oneCell' = true → ∃ v' fl' w' g', (Builtin.append_ #[T, T] ty #[v, vy]).run P w = .ok v' w' ∧ NLe st.length g g' ∧
     SRel P B w0 M g' (st.set t (.row e (ver + 1) (rows ++ ys))) w' ∧ g' t (ver + 1) = some (v', fl') ∧ v'.oneCell' = true := fun h0 hrun h1 => by
   have : ys = [] := List.eq_nil_of_length_eq_zero h0
   subst this
   rw [List.append_nil]
   exact ⟨v, fl, w, _, hrun, (h.bump ht hg).2, (h.bump ht hg).1, by simp [Nam.put], h1⟩
 -- laid anew
 have anew : ∀ (xs : List Value) (old : Nat), xs.length = rows.length * i.size → PX M i.size xs rows → old < rows.length + ys.length →
     (Builtin.append_ #[T, T] ty #[v, vy]).run P w = .ok (.slice (some ⟨w.heap.size, 0, none⟩) (rows.length + ys.length) (grownCap w (rows.length + ys.length) old e))
       (w.drew.alloc (.cells (xs.toArray ++ ns.toArray ++ Builtin.zeroCells z.cells (grownCap w (rows.length + ys.length) old e - (rows.length + ys.length))) e)) →
     ∃ v' fl' w' g', (Builtin.append_ #[T, T] ty #[v, vy]).run P w = .ok v' w' ∧ NLe st.length g g' ∧ SRel P B w0 M g' (st.set t (.row e (ver + 1) (rows ++ ys))) w' ∧ g' t (ver + 1) = some (v', fl') ∧ v'.oneCell' = true := fun xs old hxl hxr hold hrun => by
   have hge := grownCap_ge w (rows.length + ys.length) old e
   obtain ⟨g', n1, n2, n3⟩ := h.relay (rows' := rows ++ ys) ht e3 (xs ++ ns) (Builtin.zeroCells z.cells (grownCap w (rows.length + ys.length) old e - (rows.length + ys.length))).toList (grownCap w (rows.length + ys.length) old e)
     (by rw [List.length_append, List.length_append, hxl, hnl, Nat.add_mul]) (by rw [List.length_append]; exact hge) (hcap63 old)
     (by
       simp only [List.length_append, Array.length_toList, size_zeroCells, hzs, hxl, hnl, ← Nat.add_mul]
       congr 1
       omega)
     (hxr.append hxl hnr)
   refine ⟨_, true, _, g', hrun, n1, ?_, by rw [n3, List.length_append], rfl⟩
   have : (xs ++ ns ++ (Builtin.zeroCells z.cells (grownCap w (rows.length + ys.length) old e - (rows.length + ys.length))).toList).toArray = xs.toArray ++ ns.toArray ++ Builtin.zeroCells z.cells (grownCap w (rows.length + ys.length) old e - (rows.length + ys.length)) := by
     apply Array.ext'; simp
   rw [this] at n2
   exact n2
 rcases hnc with ⟨rfl, hn0, rfl⟩ | ⟨a, c, rfl, hac, hcell⟩
 · -- the appended slice is nil
   rcases e4 with ⟨rfl, xs, h4, h5, h6⟩ | ⟨rfl, h5, a, rfl, h6⟩
   · rcases h4.2 with ⟨rfl, hn⟩ | ⟨b, cap, cur, rfl, hB, hh, hcap, hmax, hsz, htk⟩
     · exact same hn0 (Oi w T ty e i hT hi none 0 0 (Nat.le_refl _)) rfl
     · exact same hn0 (Oi w T ty e i hT hi _ _ _ hcap) rfl
   · exact same hn0 (Oi w T ty e i hT hi _ _ _ (Nat.le_refl _)) rfl
 · by_cases hm0 : ys.length = 0
   · rw [hm0] at same ⊢
     rcases e4 with ⟨rfl, xs, h4, h5, h6⟩ | ⟨rfl, h5, a', rfl, h6⟩
     · rcases h4.2 with ⟨rfl, hn⟩ | ⟨b, cap, cur, rfl, hB, hh, hcap, hmax, hsz, htk⟩
       · exact same rfl (LE w T ty e i hT hi none 0 0 (Nat.le_refl _) a c) rfl
       · exact same rfl (LE w T ty e i hT hi _ _ _ hcap a c) rfl
     · exact same rfl (LE w T ty e i hT hi _ _ _ (Nat.le_refl _) a c) rfl
   · rcases e4 with ⟨rfl, xs, h4, h5, h6⟩ | ⟨rfl, h5, a', rfl, h6⟩
     · rcases h4.2 with ⟨rfl, hn⟩ | ⟨b, cap, cur, rfl, hB, hh, hcap, hmax, hsz, htk⟩
       · have hx : xs = [] := List.eq_nil_of_length_eq_zero (by rw [h4.1, hn]; simp)
         subst hx
         have hrows : rows = [] := List.eq_nil_of_length_eq_zero hn
         subst hrows
         have hr := run_append_nil (P := P) w T ty e i z hT hi hz a ys.length c ns hnl hcell (by omega) (by simp at hnm; omega) (by have hb := hbound; simp at hb; omega)
         refine anew [] 0 (by simp) (fun i row hr => by simp at hr) (by simp; omega) ?_
         simpa using hr
       · by_cases hroom : rows.length + ys.length ≤ cap
         · have hfit : rows.length * i.size + ns.length ≤ cur.size := by rw [hnl, hsz, ← Nat.add_mul]; exact Nat.mul_le_mul_right _ hroom
           have h1 : ∀ u, u ∈ ns → u.oneCell' = true := fun u hu => by
             obtain ⟨k, hk, rfl⟩ := List.getElem_of_mem hu
             have hk2 : k < ys.length * i.size := by omega
             have hki : k / i.size < ys.length := (Nat.div_lt_iff_lt_mul hs0).2 hk2
             have hkj : k % i.size < i.size := Nat.mod_lt _ hs0
             have hrl : ys[k / i.size].length = i.size := hyl _ (List.getElem_mem hki)
             obtain ⟨u, q1, q2⟩ := (hnr (k / i.size) _ (List.getElem?_eq_getElem hki)).2 (k % i.size) _ (List.getElem?_eq_getElem (by omega))
             rw [show k / i.size * i.size + k % i.size = k by rw [Nat.mul_comm]; exact Nat.div_add_mod k i.size, List.getElem?_eq_getElem hk] at q1
             cases q1
             exact q2.one
           have hr := run_append_room (P := P) w T ty e i hT hi b rows.length cap cur hh a ys.length c ns hnl hcell h1 hroom hfit
           have hcl : cur.toList.take (rows.length * i.size) = xs := htk
           rw [hcl] at hr
           have hbl : Bl g t (.row e ver rows) = some b := by simp [Bl, hg, Value.ownBlock]
           have hle : ∀ u q, g t u = some q → (g.put t (ver + 1) (.slice (some ⟨b, 0, none⟩) (rows.length + ys.length) cap, true)) t u = some q := fun u q hu => by
             have : u ≠ ver + 1 := fun hh => by rw [hh, e2 _ (by omega)] at hu; cases hu
             simp [Nam.put, this, hu]
           have hnew := setRow_heap w b cur (xs ++ ns ++ cur.toList.drop (rows.length * i.size + ns.length)).toArray e (0, 0) hh
           have hxl := h4.1
           have hout := h.write ht (w' := w.setRow b (xs ++ ns ++ cur.toList.drop (rows.length * i.size + ns.length)).toArray) (g' := g.put t (ver + 1) (.slice (some ⟨b, 0, none⟩) (rows.length + ys.length) cap, true)) (c' := .row e (ver + 1) (rows ++ ys))
             (by rw [hbl]; exact Ax9 w b _) (fun y hy u => by simp [Nam.put, hy]) hle
             (fun ad u e' hblk => by
               rw [hbl] at hblk
               have hblk' : ad.block = b := by simpa using hblk
               obtain ⟨ho, hsp⟩ := h6 b (by simp [Value.ownBlock]) ad hblk' (by rw [e']; simp)
               have hold := h.mem ad u e'
               have had : ad = ⟨b, ad.off, none⟩ := by cases ad; simp_all
               rw [had] at hold ⊢
               rw [Bx4 h4 ho] at hold
               rw [cell_of_row _ b ad.off _ e (0, 0) hnew]
               simp only [List.getElem?_toArray, List.append_assoc]
               rw [List.getElem?_append_left (by omega)]
               exact hold)
             ⟨.slice (some ⟨b, 0, none⟩) (rows.length + ys.length) cap, true, i.size, by simp [Nam.put], fun u hu => by simp only [Nam.put]; rw [if_neg (by omega)]; exact e2 u (by omega), e3,
               .inl ⟨rfl, xs ++ ns, ⟨by rw [List.length_append, List.length_append, hxl, hnl, Nat.add_mul], .inr ⟨b, cap, _, by rw [List.length_append], hB, hnew, by rw [List.length_append]; exact hroom, hmax, by
                   have hcs : cur.size = cap * i.size := hsz
                   simp only [List.size_toArray, List.length_append, List.length_drop, Array.length_toList, hxl]
                   omega, by
                   rw [List.length_append, Nat.add_mul, ← hxl, ← hnl, ← List.length_append]
                   exact List.take_left⟩⟩, h5.append hxl hnr, fun b' hb' ad had hne => by
                 simp [Value.ownBlock] at hb'
                 subst hb'
                 obtain ⟨q1, q2⟩ := h6 b (by simp [Value.ownBlock]) ad had hne
                 refine ⟨?_, q2⟩
                 rw [List.length_append, Nat.add_mul]
                 omega⟩⟩
             (fun b' hb' => by left; rw [hbl]; simpa [Bl, Nam.put, Value.ownBlock] using hb')
           exact ⟨_, true, _, _, hr, hout.2, hout.1, by simp [Nam.put], rfl⟩
         · have holds : ∀ j u, xs[j]? = some u → w.cell? ((⟨b, 0, none⟩ : Addr).add j) = some u := h4.cells (g := b) (by simp [Value.ownBlock])
           have hr := run_append_grow (P := P) w T ty e i z hT hi hz ⟨b, 0, none⟩ rows.length cap xs h4.1 holds a ys.length c ns hnl hcell (by omega) (by omega) (growslice_fits (by omega) hbound)
           exact anew xs cap h4.1 h5 (by omega) hr
     · obtain ⟨xs, hxl, hxc, hxr⟩ := h6.cells h hs0 h5
       rcases hxc with ⟨hx, _, _⟩ | ⟨a2, c2, hx, _, hxcell⟩
       · cases hx
       · cases hx
         have hr := run_append_grow (P := P) w T ty e i z hT hi hz a' rows.length rows.length xs hxl hxcell a ys.length c ns hnl hcell (by omega) (by omega) (growslice_fits (by omega) hbound)
         exact anew xs rows.length hxl hxr (by omega) hr
theorem SRel.adoptV {P : Program} {B : Nat} {w0 : World} {M : Mem} {g : Nam} {st : List Content} {w : World} (h : SRel P B w0 M g st w) {v : Value} {rows : List (List D)} (hv : RepV M g v (.ex rows)) (e : TypeId) {size : Nat} (hsize : (P.info? e).map (·.size) = some size)
   (hz : ∀ row, row ∈ rows → row.length = size) (ver : Nat) : ∃ fl, SRel P B w0 M (g.put st.length ver (v, fl)) (st ++ [.row e ver rows]) w ∧ NLe st.length g (g.put st.length ver (v, fl)) ∧ v.oneCell' = true := by
 have hnone : ∀ u, g st.length u = none := fun u => by
   cases e' : g st.length u with
   | none => rfl
   | some q => have := h.dom _ _ _ e'; omega
 have hgr : w.grownBy w none := ⟨rfl, rfl, rfl, Nat.le_refl _, fun _ _ _ => rfl⟩
 cases hv with
 | exnil =>
   refine ⟨true, h.push hgr ver _ _ ?_ (fun b hb => by simp [Bl, Nam.put, Value.ownBlock] at hb), NLe.put g _ _ _, rfl⟩
   exact ⟨_, true, size, by simp [Nam.put], fun u hu => by simp only [Nam.put]; rw [if_neg (by omega)]; exact hnone u, hsize,
     .inl ⟨rfl, [], World.ownsRow_nil w B e size, fun i row hr => by simp at hr, fun b hb => by simp [Value.ownBlock] at hb⟩⟩
 | ex a rows hd =>
   refine ⟨false, h.push hgr ver _ _ ?_ (fun b hb => by simp [Bl, Nam.put] at hb), NLe.put g _ _ _, rfl⟩
   exact ⟨_, false, size, by simp [Nam.put], fun u hu => by simp only [Nam.put]; rw [if_neg (by omega)]; exact hnone u, hsize, .inr ⟨rfl, hz, a, rfl, hd⟩⟩
theorem SRel.adopt {P : Program} {B : Nat} {w0 : World} {M : Mem} {g : Nam} {st : List Content} {w : World} (h : SRel P B w0 M g st w) {v : Value} {rows : List (List D)} (hv : RepV M g v (.ex rows)) (e : TypeId) {size : Nat} (hsize : (P.info? e).map (·.size) = some size)
   (hz : ∀ row, row ∈ rows → row.length = size) : ∃ fl, SRel P B w0 M (g.put st.length 0 (v, fl)) (st ++ [.row e 0 rows]) w ∧ NLe st.length g (g.put st.length 0 (v, fl)) ∧ v.oneCell' = true := h.adoptV hv e hsize hz 0
theorem SRel.adopt_box {P : Program} {B : Nat} {w0 : World} {M : Mem} {g : Nam} {st : List Content} {w : World} (h : SRel P B w0 M g st w) {x off : Nat} {cells : List PV} {rows : List (List D)} (hx : st[x]? = some (.box cells)) (hc : cells[off]? = some (.ex rows)) (e : TypeId) {size : Nat} (hsize : (P.info? e).map (·.size) = some size)
   (hz : ∀ row, row ∈ rows → row.length = size) : ∃ g', NLe st.length g g' ∧ SRel P B w0 M g' (st.set x (.box (cells.set off (.own st.length 0))) ++ [.row e 0 rows]) w := by
 obtain ⟨b, vs, T, h1, h2, h3, h4, h5, h6⟩ := h.cont x _ hx
 obtain ⟨v, hv, hrv⟩ := h4.get hc
 obtain ⟨fl, s1, n1, o1⟩ := h.adopt hrv e hsize hz
 have hxl : x < st.length := (List.getElem?_eq_some_iff.1 hx).1
 refine ⟨_, n1, ?_⟩
 have hx' : (st ++ [Content.row e 0 rows])[x]? = some (.box cells) := by rw [List.getElem?_append_left hxl]; exact hx
 rw [← List.set_append_left _ _ hxl]
 have hb' := n1 x hxl 0 _ h1
 have hr' : CK M (g.put st.length 0 (v, fl)) vs (cells.set off (.own st.length 0)) := by
   have hs := (h4.mono (MLe.refl M) n1 h.dom).set (RepV.own (M := M) (g := g.put st.length 0 (v, fl)) (t := st.length) (ver := 0) (v := v) (fl := fl) (by simp [Nam.put]) o1) off
   have : vs.set off v = vs := by
     have := List.getElem?_eq_some_iff.1 hv
     obtain ⟨q1, q2⟩ := this
     subst q2
     exact List.set_getElem_self q1
   rwa [this] at hs
 refine (s1.write (g' := g.put st.length 0 (v, fl)) (w' := w) (c' := .box (cells.set off (.own st.length 0))) hx' ⟨rfl, rfl, rfl, Nat.le_refl _, fun _ _ _ => rfl⟩ (fun _ _ _ => rfl) (fun _ _ e => e) (fun a u e' ha => ?_) ?_ (fun b2 h2' => .inl ?_)).1
 · exact s1.mem a u e'
 · refine ⟨b, vs, T, hb', h2, h3, hr', fun p hp => ?_, h6⟩
   rcases List.mem_or_eq_of_mem_set hp with hp | hp
   · exact h5 p hp
   · subst hp; rfl
 · simpa [Bl] using h2'
theorem SRel.freeze_box {P : Program} {B : Nat} {w0 : World} {M : Mem} {g : Nam} {st : List Content} {w : World} (h : SRel P B w0 M g st w) {x off : Nat} {cells : List PV} {rows : List (List D)} (hx : st[x]? = some (.box cells)) (hc : cells[off]? = some (.ex rows)) :
   SRel P B w0 M g (st.set x (.box (cells.set off (.d (.sl rows))))) w := by
 obtain ⟨b, vs, T, h1, h2, h3, h4, h5, h6⟩ := h.cont x _ hx
 obtain ⟨v, hv, hrv⟩ := h4.get hc
 have hrd : RepV M g v (.d (.sl rows)) := by
   cases hrv with
   | exnil => exact .d .nil
   | ex a rows hr => exact .d hr
 have hr' : CK M g vs (cells.set off (.d (.sl rows))) := by
   have hs := h4.set hrd off
   have : vs.set off v = vs := by
     obtain ⟨q1, q2⟩ := List.getElem?_eq_some_iff.1 hv
     subst q2
     exact List.set_getElem_self q1
   rwa [this] at hs
 refine (h.write (g' := g) (w' := w) (c' := .box (cells.set off (.d (.sl rows)))) hx ⟨rfl, rfl, rfl, Nat.le_refl _, fun _ _ _ => rfl⟩ (fun _ _ _ => rfl) (fun _ _ e => e) (fun a u e' ha => h.mem a u e') ?_ (fun b2 h2' => .inl (by simpa [Bl] using h2'))).1
 refine ⟨b, vs, T, h1, h2, h3, hr', fun p hp => ?_, h6⟩
 rcases List.mem_or_eq_of_mem_set hp with hp | hp
 · exact h5 p hp
 · subst hp; rfl
theorem SRel.freeze_boxO {P : Program} {B : Nat} {w0 : World} {M : Mem} {g : Nam} {st : List Content} {w : World} (h : SRel P B w0 M g st w) {x off t ver : Nat} {e : TypeId} {cells : List PV} {rows : List (List D)} (hx : st[x]? = some (.box cells)) (hc : cells[off]? = some (.own t ver)) (ht : st[t]? = some (.row e ver rows)) :
   ∃ M', MLe M M' ∧ SRel P B w0 M' g (st.set x (.box (cells.set off (.d (.sl rows))))) w := by
 obtain ⟨M', hle, s1, hd⟩ := h.freeze1 ht
 obtain ⟨b, vs, T, h1, h2, h3, h4, h5, h6⟩ := s1.cont x _ hx
 obtain ⟨v, hv, hrv⟩ := h4.get hc
 have hrd : RepV M' g v (.d (.sl rows)) := by
   cases hrv with
   | own hg ho => exact .d (hd _ _ hg)
 have hr' : CK M' g vs (cells.set off (.d (.sl rows))) := by
   have hs := h4.set hrd off
   have : vs.set off v = vs := by
     obtain ⟨q1, q2⟩ := List.getElem?_eq_some_iff.1 hv
     subst q2
     exact List.set_getElem_self q1
   rwa [this] at hs
 refine ⟨M', hle, (s1.write (g' := g) (w' := w) (c' := .box (cells.set off (.d (.sl rows)))) hx ⟨rfl, rfl, rfl, Nat.le_refl _, fun _ _ _ => rfl⟩ (fun _ _ _ => rfl) (fun _ _ e => e) (fun a u e' ha => s1.mem a u e') ?_ (fun b2 h2' => .inl (by simpa [Bl] using h2'))).1⟩
 refine ⟨b, vs, T, h1, h2, h3, hr', fun p hp => ?_, h6⟩
 rcases List.mem_or_eq_of_mem_set hp with hp | hp
 · exact h5 p hp
 · subst hp; rfl
end Go.Ax
