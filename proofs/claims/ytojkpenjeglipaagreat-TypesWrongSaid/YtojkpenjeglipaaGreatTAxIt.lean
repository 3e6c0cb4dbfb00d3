import Derived.Test.YtojkpenjeglipaaGreatTAxVk
import Derived.Shelf.SlIter.Nil
import Derived.Shelf.SlIter.Sorted
import Derived.Shelf.SortM.Plain
import Derived.Shelf.SortM.SortNone
import Derived.Shelf.SlicesG.CompactS
set_option linter.unusedVariables false
namespace Go.Ax
open Go.RowKit Go.Proofs Go.Maps Go.Sort Go.Shelf
def Ch1 (w : World) (M : Mem) (g : Nam) (Q : PV → Prop) (e : Ending) (w' : World) : Prop :=
 ∃ v p M', e = .returned v ∧ Below w.heap.size w w' ∧ MLe M M' ∧ (∀ a u, M' a = some u → w.heap.size ≤ a.block → w'.cell? a = some u) ∧ (∀ a, a.block < w.heap.size → M' a = M a) ∧ RepV M' g v p ∧ Q p
theorem Aw.of_calls {P : Program} {f : FuncId} {args : List PV} {st : List Content} {Q : PV → Prop} (ent : ∀ vs w, (callFunc f vs).run P w = .ok (.enter f vs) w)
   (h : ∀ B w0 M g w vs, SRel P B w0 M g st w → CK M g vs args → Calls P f vs.toArray w (Ch1 w M g Q)) : Aw P f args st (fun p st' => Q p ∧ st' = st) := by
 refine ⟨ent, fun B w0 M g w vs hs hr => (h B w0 M g w vs hs hr).mono fun e w' ⟨v, p, M', a1, a2, a3, a4, a5, a6, a7⟩ => ?_⟩
 exact ⟨v, p, st, M', g, a1, a3, NLe.refl _ g, Nat.le_refl _, hs.grow a2 a3 a4 a5, a6, a7, rfl⟩
theorem PV.Below.mono {n m : Nat} (h : n ≤ m) {p : PV} (hp : PV.Below n p) : PV.Below m p := by
 induction hp with
 | d x => exact .d x
 | ex r => exact .ex r
 | own h' => exact .own (by omega)
 | ptr h' => exact .ptr (by omega)
 | dp c => exact .dp c
 | nilp => exact .nilp
 | fn f ps qs hp hq ihp ihq => exact .fn f ps qs ihp ihq
 | nilf => exact .nilf
 | map h' => exact .map (by omega)
 | nilm => exact .nilm
 | agg ps hp ih => exact .agg ps ih
 | tup ps hp ih => exact .tup ps ih
 | undef => exact .undef
theorem AR4 {n m : Nat} (h : n ≤ m) {ps : List PV} (hp : AP.belowL n ps = true) : AP.belowL m ps = true := Mw _ _ (fun p hm => (H3 _ _ hp p hm).mono h)
theorem Bw5 {st : List Content} {n : Nat} (h : WF st) (hn : st.length ≤ n) : HI n st = st := by
 unfold HI
 rw [List.take_of_length_le hn]
 conv => rhs; rw [← List.map_id st]
 refine List.map_congr_left (fun c hc => ?_)
 cases c with
 | box cells => simp only [X2, AR4 hn (h cells hc), if_true, id]
 | _ => rfl
theorem WF.push {st : List Content} {c : Content} (h : WF st) (hc : ∀ cells, c = .box cells → AP.belowL (st.length + 1) cells = true) : WF (st ++ [c]) := by
 intro cells hm
 rcases List.mem_append.1 hm with hm | hm
 · exact AR4 (by simp) (h cells hm)
 · have : Content.box cells = c := by simpa using hm
   simpa using hc cells this.symm
def Xr (ys : List ByteArray) : List (List D) := ys.map fun y => [.str y]
end Go.Ax
