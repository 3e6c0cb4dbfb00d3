import Derived.Below
import Derived.Tactics
import Derived.Orders
import Derived.Maps.AppendAt
import Derived.Laws.Rows
import Derived.Laws.MakeOwn
import Derived.Maps.Own
import Derived.Maps.Views
import Derived.Sort.KeysCollected
import Derived.Lib.ConvBytes
set_option linter.unusedVariables false
namespace Go.Ax
open Go.RowKit
theorem Bd7 (w : World) (o : Obj) : (w.alloc o).heap[w.heap.size]? = some o := by simp [World.alloc, -World.alloc_eq]
theorem Bd3 (w : World) (o : Obj) (i : Nat) (h : i < w.heap.size) : (w.alloc o).heap[i]? = w.heap[i]? := by
 simp [World.alloc, -World.alloc_eq, Array.getElem?_push, Nat.ne_of_lt h]
inductive D where
 | bool (b : Bool)
 | int (k : IntKind) (n : Int)
 | str (s : ByteArray)
 | sl (rows : List (List D))
instance : Inhabited D := ⟨.bool false⟩
inductive PV where
 | d (x : D)
 | ex (rows : List (List D))
 | own (t ver : Nat)
 | ptr (x off : Nat)
 | dp (cells : List D)
 | nilp
 | fn (f : FuncId) (first caps : List PV)
 | nilf
 | map (t : Nat)
 | nilm
 | agg (cells : List PV)
 | tup (vs : List PV)
 | undef
instance : Inhabited PV := ⟨.undef⟩
def PV.one : PV → Bool
 | .agg _ | .tup _ | .undef => false
 | _ => true
def PV.cells : PV → List PV
 | .agg cs => cs
 | p => [p]
inductive Content where
 | dead
 | fresh
 | box (cells : List PV)
 | row (e : TypeId) (ver : Nat) (rows : List (List D))
 | map (k e : TypeId) (ks : List ByteArray)
abbrev Mem := Addr → Option Value
abbrev Nam := Nat → Nat → Option (Value × Bool)
def MLe (M M' : Mem) : Prop := ∀ a v, M a = some v → M' a = some v
def NLe (n : Nat) (g g' : Nam) : Prop := ∀ x, x < n → ∀ ver v, g x ver = some v → g' x ver = some v
theorem MLe.refl (M : Mem) : MLe M M := fun _ _ h => h
theorem MLe.trans {a b c : Mem} (h : MLe a b) (k : MLe b c) : MLe a c := fun x v e => k x v (h x v e)
theorem NLe.refl (n : Nat) (g : Nam) : NLe n g g := fun _ _ _ _ h => h
theorem NLe.trans {n : Nat} {a b c : Nam} (h : NLe n a b) (k : NLe n b c) : NLe n a c := fun x hx r v e => k x hx r v (h x hx r v e)
theorem NLe.mono {n m : Nat} {a b : Nam} (h : NLe n a b) (hm : m ≤ n) : NLe m a b := fun x hx => h x (Nat.lt_of_lt_of_le hx hm)
inductive RepD (M : Mem) : Value → D → Prop
 | bool (b : Bool) : RepD M (.bool b) (.bool b)
 | int (k : IntKind) (n : Int) : RepD M (.int k n) (.int k n)
 | str (s : ByteArray) : RepD M (.string s) (.str s)
 | nil : RepD M (.slice none 0 0) (.sl [])
 | sl (a : Addr) (cap size : Nat) (rows : List (List D)) (val : Nat → Nat → Value) (hc : rows.length ≤ cap)
     (hs : ∀ (i : Nat) (row : List D), rows[i]? = some row → row.length = size)
     (hm : ∀ (i : Nat) (row : List D) (j : Nat) (d : D), rows[i]? = some row → row[j]? = some d → M (a.add (i * size + j)) = some (val i j))
     (hr : ∀ (i : Nat) (row : List D) (j : Nat) (d : D), rows[i]? = some row → row[j]? = some d → RepD M (val i j) d) :
     RepD M (.slice (some a) rows.length cap) (.sl rows)
theorem RepD.mono {M M' : Mem} (hM : MLe M M') {v : Value} {d : D} (h : RepD M v d) : RepD M' v d := by
 induction h with
 | bool b => exact .bool b
 | int k n => exact .int k n
 | str s => exact .str s
 | nil => exact .nil
 | sl a cap size rows val hc hs hm hr ih => exact .sl a cap size rows val hc hs (fun i row j d h1 h2 => hM _ _ (hm i row j d h1 h2)) ih
theorem RepD.one {M : Mem} {v : Value} {d : D} (h : RepD M v d) : v.oneCell' = true := by cases h <;> rfl
inductive RepV (M : Mem) (g : Nam) : Value → PV → Prop
 | d {v : Value} {x : D} (h : RepD M v x) : RepV M g v (.d x)
 | exnil : RepV M g (.slice none 0 0) (.ex [])
 | ex (a : Addr) (rows : List (List D)) (h : RepD M (.slice (some a) rows.length rows.length) (.sl rows)) : RepV M g (.slice (some a) rows.length rows.length) (.ex rows)
 | own {t ver : Nat} {v : Value} {fl : Bool} (h : g t ver = some (v, fl)) (h1 : v.oneCell' = true) : RepV M g v (.own t ver)
 | ptr {x off b : Nat} (h : g x 0 = some (.pointer (some ⟨b, 0, none⟩), true)) : RepV M g (.pointer (some ⟨b, off, none⟩)) (.ptr x off)
 | dp (a : Addr) (cells : List D) (val : Nat → Value) (hm : ∀ (j : Nat) (d : D), cells[j]? = some d → M (a.add j) = some (val j))
     (hr : ∀ (j : Nat) (d : D), cells[j]? = some d → RepD M (val j) d) : RepV M g (.pointer (some a)) (.dp cells)
 | nilp : RepV M g (.pointer none) .nilp
 | fn (f : FuncId) (vs us : List Value) (ps qs : List PV) (hl : vs.length = ps.length) (hk : us.length = qs.length)
     (hv : ∀ (i : Nat) (v : Value) (p : PV), vs[i]? = some v → ps[i]? = some p → RepV M g v p) (hu : ∀ (i : Nat) (v : Value) (p : PV), us[i]? = some v → qs[i]? = some p → RepV M g v p) :
     RepV M g (.func (.func f) vs.toArray us.toArray) (.fn f ps qs)
 | nilf : RepV M g .nilFunc .nilf
 | map {t b : Nat} (h : g t 0 = some (.map (some b), true)) : RepV M g (.map (some b)) (.map t)
 | nilm : RepV M g (.map none) .nilm
 | agg (vs : List Value) (ps : List PV) (hl : vs.length = ps.length) (h : ∀ (i : Nat) (v : Value) (p : PV), vs[i]? = some v → ps[i]? = some p → RepV M g v p) : RepV M g (.agg vs.toArray) (.agg ps)
 | tup (vs : List Value) (ps : List PV) (hl : vs.length = ps.length) (h : ∀ (i : Nat) (v : Value) (p : PV), vs[i]? = some v → ps[i]? = some p → RepV M g v p) : RepV M g (.tuple vs.toArray) (.tup ps)
 | undef (v : Value) : RepV M g v .undef
inductive PV.Below (n : Nat) : PV → Prop
 | d (x : D) : PV.Below n (.d x)
 | ex (rows : List (List D)) : PV.Below n (.ex rows)
 | own {t ver : Nat} (h : t < n) : PV.Below n (.own t ver)
 | ptr {x off : Nat} (h : x < n) : PV.Below n (.ptr x off)
 | dp (cells : List D) : PV.Below n (.dp cells)
 | nilp : PV.Below n .nilp
 | fn (f : FuncId) (ps qs : List PV) (hp : ∀ p, p ∈ ps → PV.Below n p) (hq : ∀ p, p ∈ qs → PV.Below n p) : PV.Below n (.fn f ps qs)
 | nilf : PV.Below n .nilf
 | map {t : Nat} (h : t < n) : PV.Below n (.map t)
 | nilm : PV.Below n .nilm
 | agg (ps : List PV) (hp : ∀ p, p ∈ ps → PV.Below n p) : PV.Below n (.agg ps)
 | tup (ps : List PV) (hp : ∀ p, p ∈ ps → PV.Below n p) : PV.Below n (.tup ps)
 | undef : PV.Below n .undef
theorem RepV.mono' {M M' : Mem} {g g' : Nam} {n : Nat} (hM : MLe M M') (hg : NLe n g g') {v : Value} {p : PV} (h : RepV M g v p) : PV.Below n p → RepV M' g' v p := by
 induction h with
 | d h => exact fun _ => .d (h.mono hM)
 | exnil => exact fun _ => .exnil
 | ex a rows h => exact fun _ => .ex a rows (h.mono hM)
 | own h h1 => intro hb; cases hb with | own hx => exact .own (hg _ hx _ _ h) h1
 | ptr h => intro hb; cases hb with | ptr hx => exact .ptr (hg _ hx _ _ h)
 | dp a cells val hm hr => exact fun _ => .dp a cells val (fun j d h => hM _ _ (hm j d h)) (fun j d h => (hr j d h).mono hM)
 | nilp => exact fun _ => .nilp
 | fn f vs us ps qs hl hk hv hu ihv ihu =>
   intro hb
   cases hb with
   | fn _ _ _ hp hq => exact .fn f vs us ps qs hl hk (fun i v p h1 h2 => ihv i v p h1 h2 (hp p (List.mem_of_getElem? h2))) (fun i v p h1 h2 => ihu i v p h1 h2 (hq p (List.mem_of_getElem? h2)))
 | nilf => exact fun _ => .nilf
 | map h => intro hb; cases hb with | map hx => exact .map (hg _ hx _ _ h)
 | nilm => exact fun _ => .nilm
 | agg vs ps hl h ih => intro hb; cases hb with | agg _ hp => exact .agg vs ps hl (fun i v p h1 h2 => ih i v p h1 h2 (hp p (List.mem_of_getElem? h2)))
 | tup vs ps hl h ih => intro hb; cases hb with | tup _ hp => exact .tup vs ps hl (fun i v p h1 h2 => ih i v p h1 h2 (hp p (List.mem_of_getElem? h2)))
 | undef v => exact fun _ => .undef v
theorem RepV.isBelow {M : Mem} {g : Nam} {n : Nat} (hd : ∀ x ver v, g x ver = some v → x < n) {v : Value} {p : PV} (h : RepV M g v p) : PV.Below n p := by
 induction h with
 | d h => exact .d _
 | exnil => exact .ex _
 | ex a rows h => exact .ex _
 | own h h1 => exact .own (hd _ _ _ h)
 | ptr h => exact .ptr (hd _ _ _ h)
 | dp a cells val hm hr => exact .dp _
 | nilp => exact .nilp
 | fn f vs us ps qs hl hk hv hu ihv ihu =>
   refine .fn f ps qs (fun p hp => ?_) (fun p hp => ?_)
   · obtain ⟨i, hi, rfl⟩ := List.getElem_of_mem hp
     exact ihv i (vs[i]'(by omega)) ps[i] (List.getElem?_eq_getElem _) (List.getElem?_eq_getElem _)
   · obtain ⟨i, hi, rfl⟩ := List.getElem_of_mem hp
     exact ihu i (us[i]'(by omega)) qs[i] (List.getElem?_eq_getElem _) (List.getElem?_eq_getElem _)
 | nilf => exact .nilf
 | map h => exact .map (hd _ _ _ h)
 | nilm => exact .nilm
 | agg vs ps hl h ih =>
   refine .agg ps (fun p hp => ?_)
   obtain ⟨i, hi, rfl⟩ := List.getElem_of_mem hp
   exact ih i (vs[i]'(by omega)) ps[i] (List.getElem?_eq_getElem _) (List.getElem?_eq_getElem _)
 | tup vs ps hl h ih =>
   refine .tup ps (fun p hp => ?_)
   obtain ⟨i, hi, rfl⟩ := List.getElem_of_mem hp
   exact ih i (vs[i]'(by omega)) ps[i] (List.getElem?_eq_getElem _) (List.getElem?_eq_getElem _)
 | undef v => exact .undef
theorem RepV.mono {M M' : Mem} {g g' : Nam} {n : Nat} (hM : MLe M M') (hg : NLe n g g') (hd : ∀ x ver v, g x ver = some v → x < n) {v : Value} {p : PV} (h : RepV M g v p) : RepV M' g' v p :=
 h.mono' hM hg (h.isBelow hd)
theorem RepV.one {M : Mem} {g : Nam} {v : Value} {p : PV} (h : RepV M g v p) (ho : p.one = true) : v.oneCell' = true := by
 cases h with
 | d h => exact h.one
 | own h h1 => exact h1
 | agg => simp [PV.one] at ho
 | tup => simp [PV.one] at ho
 | undef => simp [PV.one] at ho
 | _ => rfl
def CK (M : Mem) (g : Nam) (vs : List Value) (ps : List PV) : Prop := vs.length = ps.length ∧ ∀ (i : Nat) (v : Value) (p : PV), vs[i]? = some v → ps[i]? = some p → RepV M g v p
theorem CK.nil (M : Mem) (g : Nam) : CK M g [] [] := ⟨rfl, fun i v p h => by simp at h⟩
theorem CK.cons {M : Mem} {g : Nam} {v : Value} {p : PV} {vs : List Value} {ps : List PV} (h : RepV M g v p) (hs : CK M g vs ps) : CK M g (v :: vs) (p :: ps) := by
 refine ⟨by simp [hs.1], fun i u q h1 h2 => ?_⟩
 cases i with
 | zero => simp at h1 h2; subst h1; subst h2; exact h
 | succ i => simp at h1 h2; exact hs.2 i u q h1 h2
theorem CK.get {M : Mem} {g : Nam} {vs : List Value} {ps : List PV} (h : CK M g vs ps) {i : Nat} {p : PV} (hp : ps[i]? = some p) : ∃ v, vs[i]? = some v ∧ RepV M g v p := by
 have hi : i < ps.length := (List.getElem?_eq_some_iff.1 hp).1
 refine ⟨vs[i]'(by have := h.1; omega), List.getElem?_eq_getElem _, h.2 i _ _ (List.getElem?_eq_getElem _) hp⟩
theorem CK.append {M : Mem} {g : Nam} {vs us : List Value} {ps qs : List PV} (h : CK M g vs ps) (k : CK M g us qs) : CK M g (vs ++ us) (ps ++ qs) := by
 refine ⟨by simp [h.1, k.1], fun i v p h1 h2 => ?_⟩
 have hl := h.1
 by_cases hi : i < ps.length
 · rw [List.getElem?_append_left (by omega)] at h1
   rw [List.getElem?_append_left hi] at h2
   exact h.2 i v p h1 h2
 · rw [List.getElem?_append_right (by omega)] at h1
   rw [List.getElem?_append_right (by omega)] at h2
   rw [hl] at h1
   exact k.2 _ v p h1 h2
theorem CK.mono {M M' : Mem} {g g' : Nam} {n : Nat} (hM : MLe M M') (hg : NLe n g g') (hd : ∀ x ver v, g x ver = some v → x < n) {vs : List Value} {ps : List PV} (h : CK M g vs ps) : CK M' g' vs ps :=
 ⟨h.1, fun i v p h1 h2 => (h.2 i v p h1 h2).mono hM hg hd⟩
theorem CK.set {M : Mem} {g : Nam} {vs : List Value} {ps : List PV} (h : CK M g vs ps) {v : Value} {p : PV} (hv : RepV M g v p) (i : Nat) : CK M g (vs.set i v) (ps.set i p) := by
 refine ⟨by simp [h.1], fun j u q h1 h2 => ?_⟩
 have hl := h.1
 rw [List.getElem?_set] at h1 h2
 split at h1
 · rename_i e
   subst e
   by_cases hi : i < vs.length
   · simp [hi] at h1; simp [show i < ps.length by omega] at h2; subst h1; subst h2; exact hv
   · simp [hi] at h1
 · rename_i e
   rw [if_neg e] at h2
   exact h.2 j u q h1 h2
theorem CK.take {M : Mem} {g : Nam} {vs : List Value} {ps : List PV} (h : CK M g vs ps) (n : Nat) : CK M g (vs.take n) (ps.take n) := by
 refine ⟨by simp [h.1], fun i v p h1 h2 => ?_⟩
 rw [List.getElem?_take] at h1 h2
 split at h1
 · rename_i hi; rw [if_pos hi] at h2; exact h.2 i v p h1 h2
 · cases h1
theorem CK.drop {M : Mem} {g : Nam} {vs : List Value} {ps : List PV} (h : CK M g vs ps) (n : Nat) : CK M g (vs.drop n) (ps.drop n) := by
 refine ⟨by simp [h.1], fun i v p h1 h2 => ?_⟩
 rw [List.getElem?_drop] at h1 h2
 exact h.2 _ v p h1 h2
theorem RepV.toCells {M : Mem} {g : Nam} {v : Value} {p : PV} (h : RepV M g v p) (hp : p.one = true ∨ ∃ cs, p = .agg cs) : CK M g v.cells.toList p.cells := by
 rcases hp with hp | ⟨cs, rfl⟩
 · have h1 := h.one hp
   have e1 : v.cells = #[v] := by cases v <;> first | rfl | (simp [Value.oneCell'] at h1)
   have e2 : p.cells = [p] := by cases p <;> first | rfl | (simp [PV.one] at hp)
   rw [e1, e2]
   exact CK.cons h (CK.nil M g)
 · cases h with
   | agg vs ps hl h => exact ⟨hl, h⟩
def Bl (g : Nam) (x : Nat) : Content → Option Nat
 | .dead | .fresh => none
 | .box _ => match g x 0 with | some (.pointer (some a), _) => some a.block | _ => none
 | .row _ ver _ => match g x ver with | some (v, true) => v.ownBlock | _ => none
 | .map _ _ _ => match g x 0 with | some (.map (some b), _) => some b | _ => none
def PX (M : Mem) (size : Nat) (xs : List Value) (rows : List (List D)) : Prop :=
 ∀ i row, rows[i]? = some row → row.length = size ∧ ∀ j d, row[j]? = some d → ∃ u, xs[i * size + j]? = some u ∧ RepD M u d
def BB4 (P : Program) (B : Nat) (M : Mem) (g : Nam) (w : World) (x : Nat) : Content → Prop
 | .dead => True
 | .fresh => ∀ u, g x u = none
 | .box cells => ∃ b vs T, g x 0 = some (.pointer (some ⟨b, 0, none⟩), true) ∧ B ≤ b ∧ w.heap[b]? = some (.cells vs.toArray T (0, 0)) ∧
     CK M g vs cells ∧ (∀ p, p ∈ cells → p.one = true) ∧ ∀ a, a.block = b → M a = none
 | .row e ver rows => ∃ v fl size, g x ver = some (v, fl) ∧ (∀ u, ver < u → g x u = none) ∧ (P.info? e).map (·.size) = some size ∧
     ((fl = true ∧ ∃ xs, w.ownsRow B e size v rows.length xs ∧ PX M size xs rows ∧ ∀ b, v.ownBlock = some b → ∀ a, a.block = b → M a ≠ none → a.off < rows.length * size ∧ a.spot = none) ∨
      (fl = false ∧ (∀ row, row ∈ rows → row.length = size) ∧ ∃ a, v = .slice (some a) rows.length rows.length ∧ RepD M v (.sl rows)))
 | .map k e ks => ∃ b D, g x 0 = some (.map (some b), true) ∧ B ≤ b ∧ w.ownsMap (H := Empty) P k (plainElem P e) b ks.length D ∧ P.underlying k = some .string ∧ (∀ s : ByteArray, Maps.has D (.string s.data.toList) = true ↔ s ∈ ks)
structure SRel (P : Program) (B : Nat) (w0 : World) (M : Mem) (g : Nam) (st : List Content) (w : World) : Prop where
 below : Below B w0 w
 hB : B ≤ w.heap.size
 mem : ∀ a v, M a = some v → w.cell? a = some v
 cont : ∀ x c, st[x]? = some c → BB4 P B M g w x c
 dom : ∀ x ver v, g x ver = some v → x < st.length
 sep : ∀ x y c d b, x ≠ y → st[x]? = some c → st[y]? = some d → Bl g x c = some b → Bl g y d ≠ some b
structure XS where
 r : Nat → PV
 st : List Content
structure XRel (P : Program) (N B : Nat) (w0 : World) (M : Mem) (g : Nam) (s : XS) (a : Act) (w : World) : Prop where
 size : a.tmps.size = N
 slots : ∀ i, RepV M g (a.tmps.getD i undef) (s.r i)
 defers : a.defers = []
 st : SRel P B w0 M g s.st w
end Go.Ax
