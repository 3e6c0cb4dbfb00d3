import Derived.Test.YtojkpenjeglipaaIAxVk
import Derived.Shelf.SlIter.Nil
import Derived.Shelf.SlIter.Sorted
import Derived.Shelf.SortM.Plain
import Derived.Shelf.SortM.SortNone
import Derived.Shelf.SlicesG.CompactS
set_option linter.unusedVariables false
set_option linter.unusedSimpArgs false
namespace Go.Ax
open Go.RowKit Go.Proofs Go.Maps Go.Sort Go.Shelf
def AP8 (w : World) (M : Mem) (g : Nam) (Q : PV → Prop) (e : Ending) (w' : World) : Prop :=
 ∃ v p M', e = .returned v ∧ Below w.heap.size w w' ∧ MLe M M' ∧ (∀ a u, M' a = some u → w.heap.size ≤ a.block → w'.cell? a = some u) ∧ (∀ a, a.block < w.heap.size → M' a = M a) ∧ RepV M' g v p ∧ Q p
theorem Aw.of_calls {P : Program} {f : FuncId} {args : List PV} {st : List Content} {Q : PV → Prop} (ent : ∀ vs w, (callFunc f vs).run P w = .ok (.enter f vs) w)
   (h : ∀ B w0 M g w vs, SRel P B w0 M g st w → C2 M g vs args → Calls P f vs.toArray w (AP8 w M g Q)) : Aw P f args st (fun p st' => Q p ∧ st' = st) := by
 refine ⟨ent, fun B w0 M g w vs hs hr => (h B w0 M g w vs hs hr).mono fun e w' ⟨v, p, M', a1, a2, a3, a4, a5, a6, a7⟩ => ?_⟩
 exact ⟨v, p, st, M', g, a1, a3, NLe.refl _ g, Nat.le_refl _, hs.grow a2 a3 a4 a5, a6, a7, rfl⟩
theorem PV.Below.mono {n m : Nat} (h : n ≤ m) {p : PV} (hp : PV.Below n p) : PV.Below m p := by
 induction hp with
 | d x => exact .d x
 | ex r => exact .ex r
 | own h' => exact .own (by omega)
 | ptr h' => exact .ptr (by omega)
 | dp c => exact .dp c
 | nilp => exact .nilp
 | fn f ps qs hp hq ihp ihq => exact .fn f ps qs ihp ihq
 | nilf => exact .nilf
 | map h' => exact .map (by omega)
 | nilm => exact .nilm
 | agg ps hp ih => exact .agg ps ih
 | tup ps hp ih => exact .tup ps ih
 | undef => exact .undef
theorem WR {n m : Nat} (h : n ≤ m) {ps : List PV} (hp : AJ.belowL n ps = true) : AJ.belowL m ps = true := JK _ _ (fun p hm => (Hw _ _ hp p hm).mono h)
theorem Xu {st : List Content} {n : Nat} (h : WF st) (hn : st.length ≤ n) : Ko n st = st := by
 unfold Ko
 rw [List.take_of_length_le hn]
 conv => rhs; rw [← List.map_id st]
 refine List.map_congr_left (fun c hc => ?_)
 cases c with
 | box cells => simp only [Ka, WR hn (h cells hc), if_true, id]
 | _ => rfl
theorem WF.push {st : List Content} {c : Content} (h : WF st) (hc : ∀ cells, c = .box cells → AJ.belowL (st.length + 1) cells = true) : WF (st ++ [c]) := by
 intro cells hm
 rcases List.mem_append.1 hm with hm | hm
 · exact WR (by simp) (h cells hm)
 · have : Content.box cells = c := by simpa using hm
   simpa using hc cells this.symm
def Hh (ys : List ByteArray) : List (List D) := ys.map fun y => [.str y]
def OE (x : List UInt8) : ByteArray := ⟨x.toArray⟩
theorem AN5 {P : Program} {B : Nat} {w0 : World} {M : Mem} {g : Nam} {st : List Content} {w w' : World} (hs : SRel P B w0 M g st w) {e : TypeId} {v : Value} {n : Nat} {xs : List (List UInt8)} (h : w'.ownsRow w.heap.size e 1 v n (xs.map encStr)) :
   ∃ M', MLe M M' ∧ (∀ a u, M' a = some u → w.heap.size ≤ a.block → w'.cell? a = some u) ∧ (∀ a, a.block < w.heap.size → M' a = M a) ∧ RepV M' g v (.d (.sl (Hh (xs.map OE)))) := by
 have hl : xs.length = n := by have := h.1; simpa using this
 rcases h.2 with ⟨rfl, hn⟩ | ⟨b, cap, cur, rfl, hb, hh, hcap, hmax, hsz, htk⟩
 · have : xs = [] := List.eq_nil_of_length_eq_zero (by omega)
   subst this
   exact ⟨M, MLe.refl M, fun a u e ha => by have := Jq hs e; omega, fun _ _ => rfl, .d .nil⟩
 · let M' : Mem := fun a => if a.block = b ∧ a.off < n ∧ a.spot = none then w'.cell? a else M a
   have hold : ∀ a : Addr, a.block < w.heap.size → M' a = M a := fun a ha => by
     show (if a.block = b ∧ a.off < n ∧ a.spot = none then _ else _) = _
     rw [if_neg (fun hh => by omega)]
   have hle : MLe M M' := fun a u hu => by rw [hold a (Jq hs hu)]; exact hu
   refine ⟨M', hle, fun a u e' ha => ?_, hold, .d ?_⟩
   · have e' : (if a.block = b ∧ a.off < n ∧ a.spot = none then w'.cell? a else M a) = some u := e'
     split at e'
     · exact e'
     · have := Jq hs e'; omega
   · have hlen : (Hh (xs.map OE)).length = n := by simp [Hh, hl]
     rw [← hlen]
     have one : ∀ (i : Nat) (row : List D), (Hh (xs.map OE))[i]? = some row → ∃ x, xs[i]? = some x ∧ row = [.str (OE x)] := fun i row hr => by
       simp only [Hh, List.getElem?_map] at hr
       cases e : xs[i]? with
       | none => rw [e] at hr; cases hr
       | some x => rw [e] at hr; cases hr; exact ⟨x, rfl, rfl⟩
     refine .sl _ cap 1 _ (fun i j => encStr (xs.getD i [])) (by omega) (fun i row hr => ?_) (fun i row j d hr hj => ?_) (fun i row j d hr hj => ?_)
     · obtain ⟨x, _, rfl⟩ := one i row hr; rfl
     · obtain ⟨x, hx, rfl⟩ := one i row hr
       cases j with
       | succ j => simp at hj
       | zero =>
         have hi : i < n := by rw [← hl]; exact (List.getElem?_eq_some_iff.1 hx).1
         rw [Rm]
         show (if b = b ∧ i * 1 + 0 < n ∧ (none : Option Nat) = none then w'.cell? ⟨b, i * 1 + 0, none⟩ else _) = _
         rw [if_pos ⟨rfl, by omega, rfl⟩, show i * 1 + 0 = i by omega, cell_of_row w' b i cur e (0, 0) hh]
         have h1 : (cur.toList.take (n * 1))[i]? = (xs.map encStr)[i]? := by rw [htk]
         rw [List.getElem?_take, if_pos (by omega), List.getElem?_map, hx] at h1
         rw [← Array.getElem?_toList, h1, List.getD_eq_getElem?_getD, hx]
         rfl
     · obtain ⟨x, hx, rfl⟩ := one i row hr
       cases j with
       | succ j => simp at hj
       | zero =>
         simp at hj
         subst hj
         rw [List.getD_eq_getElem?_getD, hx]
         exact .str _
def He (ys : List ByteArray) : Prop := ys.Pairwise fun x y => x.data.toList < y.data.toList
theorem Ar5 {P : Program} {k : TypeId} {R : Value → Option (DataW Empty × List MemPlace)} {w : World} {b n : Nat} {D : DataW Empty} (h : w.ownsMap P k R b n D) (hk : P.underlying k = some .string) {ss : List (List UInt8)} (hp : ss.Perm (strKeys D)) :
   ss.Nodup ∧ ∀ x, x ∈ ss ↔ Maps.has D (.string x) = true := by
 obtain ⟨es, hD, hpw, _⟩ := h.entries (string_keyed hk)
 obtain ⟨es', hD', hko⟩ := h.keysOf
 obtain rfl : es = es' := by rw [hD] at hD'; simpa using hD'
 subst hD
 have hks : ∀ p ∈ es, ∃ x, p.1 = .string x := fun p hp => by obtain ⟨v, hv⟩ := hko p hp; obtain ⟨x, _, hx, _⟩ := Maps.keyOf_str hk hv; exact ⟨x, hx⟩
 have hnd : (strKeys (.map es)).Nodup := by
   show (es.map fun p => strOf p.1).Nodup
   refine List.pairwise_map.2 (hpw.imp_of_mem fun {p q} hp' hq' hne e => hne ?_)
   obtain ⟨a, ha⟩ := hks p hp'
   obtain ⟨b, hb⟩ := hks q hq'
   rw [ha, hb] at e ⊢
   exact congrArg _ e
 refine ⟨hp.nodup_iff.2 hnd, fun x => ?_⟩
 rw [hp.mem_iff, has_eq, List.any_eq_true]
 show x ∈ es.map (fun p => strOf p.1) ↔ _
 rw [List.mem_map]
 constructor
 · rintro ⟨p, hp', rfl⟩
   obtain ⟨a, ha⟩ := hks p hp'
   exact ⟨p, hp', by rw [ha]; simp [Lit.sameKey, strOf]⟩
 · rintro ⟨p, hp', hs⟩
   obtain ⟨a, ha⟩ := hks p hp'
   rw [ha] at hs
   exact ⟨p, hp', by rw [ha]; simpa [Lit.sameKey, strOf] using hs⟩
theorem As5 {ss : List (List UInt8)} (hnd : ss.Nodup) : He ((ss.mergeSort (fun x y => decide (x ≤ y))).map OE) := by
 have tr : ∀ a b c : List UInt8, leB a b = true → leB b c = true → leB a c = true := fun a b c h1 h2 => by simp only [leB, decide_eq_true_eq] at *; exact List.le_trans h1 h2
 have to : ∀ a b : List UInt8, (leB a b || leB b a) = true := fun a b => by simp only [leB, Bool.or_eq_true, decide_eq_true_eq]; exact List.le_total a b
 have h1 := List.pairwise_mergeSort tr to ss
 have h2 : (ss.mergeSort leB).Nodup := (List.mergeSort_perm ss leB).nodup_iff.2 hnd
 refine List.pairwise_map.2 ((h1.and h2).imp fun {x y} ⟨hle, hne⟩ => ?_)
 simp only [leB, decide_eq_true_eq] at hle
 show x < y
 by_cases h : x < y
 · exact h
 · exact absurd (List.le_antisymm hle (List.not_lt.1 h)) hne
theorem acalls_sortedKeys {P : Program} {ρK ρS : Ren} (LK : SlLaysZ.n10 P ρK) (LS : SlLaysZ.n6 P ρS) (hsort : ∀ m, AnyZ.SortsIn P ρS Fence.wide m)
   (e6 : ∀ args w, (callFunc (ρS.f 6) args).run P w = .ok (.enter (ρS.f 6) args) w) (e9 : ∀ args w, (callFunc (ρS.f 9) args).run P w = .ok (.enter (ρS.f 9) args) w) (e10 : ∀ args w, (callFunc (ρK.f 10) args).run P w = .ok (.enter (ρK.f 10) args) w)
   {st : List Content} {x t : Nat} {e : TypeId} {ks : List ByteArray} (hx : st[x]? = some (.box [.map t])) (ht : st[t]? = some (.map (ρK.t 26) e ks)) (hn : ks.length * 16 ≤ 140737488355328) :
   Aw P (ρS.f 6) [.fn (ρK.f 10) [] [.ptr x 0]] st (fun p st' => (∃ ys, p = .d (.sl (Hh ys)) ∧ He ys ∧ ∀ s, s ∈ ys ↔ s ∈ ks) ∧ st' = st) := by
 refine Aw.of_calls e6 fun B w0 M g w vs hs hr => ?_
 obtain ⟨v, hv, hrv⟩ := hr.get (i := 0) rfl
 have hvs : vs = [v] := by
   have hl := hr.1
   match vs, hl, hv with
   | [u], _, hv => simpa using hv
 subst hvs
 cases hrv with
 | fn _ zs us _ _ hl hk hva hu =>
   have has0 : zs = [] := List.eq_nil_of_length_eq_zero hl
   subst has0
   have hus : ∃ u, us = [u] := by
     match us, hk with
     | [u], _ => exact ⟨u, rfl⟩
   obtain ⟨u, rfl⟩ := hus
   have hru := hu 0 u (.ptr x 0) rfl rfl
   obtain ⟨bx, bvs, T, rfl, hg, hh, hrl, h1⟩ := Ag5 hs hru hx
   obtain ⟨mv, hmv, hrm⟩ := hrl.get (i := 0) (p := .map t) rfl
   cases hrm with
   | map hgt =>
     rename_i bm
     obtain ⟨bm', D, c1, c2, c3, c4, c5⟩ := hs.cont t _ ht
     rw [hgt] at c1
     simp at c1
     subst c1
     have hcell : w.cell? ⟨bx, 0, none⟩ = some (.map (some bm)) := by
       have := Qb hh 0 0
       rw [K6, Nat.add_zero] at this
       rw [this, hmv]
     have hbx : bx < w.heap.size := (Array.getElem?_eq_some_iff.1 hh).1
     have hseq := AnyZ.keys_gives LK Fence.wide 2 trivial rfl (by omega) bx bm ks.length D w hbx hcell c3
     have hsz := c3.size_le
     have hcall := AnyZ.sorted_in LS Fence.wide 5 trivial trivial trivial trivial rfl (by omega) (hsort _) e9 (ρK.f 10) #[.pointer (some ⟨bx, 0, none⟩)] trivial e10 _ (Maps.size D) (by simp only [maxLen]; omega) (by omega) w hseq
     refine (callsIn_wide.1 hcall).mono fun en w' ⟨rv, ss, q1, q2, q3, q4, q5⟩ => ?_
     obtain ⟨n1, n2⟩ := Ar5 c3 c4 q2
     have hlen : ss.length = (ss.mergeSort (fun x y => decide (x ≤ y))).length := by simp
     obtain ⟨M', m1, m2, m3, m4⟩ := AN5 hs q3
     refine ⟨rv, _, M', q1, q5, m1, m2, m3, m4, _, rfl, As5 n1, fun s => ?_⟩
     rw [← c5 s, ← n2, List.mem_map]
     constructor
     · rintro ⟨y, hy, rfl⟩
       simpa [OE] using (List.mergeSort_perm ss _).mem_iff.1 hy
     · intro hy
       exact ⟨s.data.toList, (List.mergeSort_perm ss _).mem_iff.2 hy, by cases s; simp [OE]⟩
end Go.Ax
