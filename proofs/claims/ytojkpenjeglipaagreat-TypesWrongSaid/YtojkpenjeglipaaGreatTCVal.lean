import Derived.RangeFuncBox
import Derived.RangeFuncLeaves
import Derived.Shelf.Abstract
import Derived.WalkKit
import Derived.OwnWalkIn
import Derived.TacticsInMore
import Derived.LoopNIn
import Derived.LoopIn
import Derived.Maps.AppendAt
import Derived.Test.YtojkpenjeglipaaGreatTCLay
set_option linter.unusedVariables false
namespace Go.Proofs
open Go.RowKit Go.Shelf Go.Sort
attribute [local go_sem] Oper.semAt_some
def Val.upto {α : Type} (f : Nat → α) (k : Nat) : List α := (List.range k).map f
theorem Val.upto_succ {α : Type} (f : Nat → α) (k : Nat) : Val.upto f (k + 1) = Val.upto f k ++ [f k] := by simp [Val.upto, List.range_succ]
theorem Val.upto_length {α : Type} (f : Nat → α) (k : Nat) : (Val.upto f k).length = k := by simp [Val.upto]
theorem Val.upto_all (zs : List (List UInt8)) : Val.upto (fun j => zs[j]?.getD []) zs.length = zs := by
 apply List.ext_getElem
 · simp [Val.upto]
 · intro i h1 h2
   simp [Val.upto, h2]
set_option maxRecDepth 100000 in
set_option maxHeartbeats 2000000 in
theorem Val.values1_in (F : Fence) (n : Nat) (h7 : F.fn 257) (hro : F.round = none) (hn : 1 ≤ n) (l Bs n₀ b off len cap : Nat) (zs : List (List UInt8)) (hreach : len * 8 ≤ 140737488351232) (hb : b < n₀) (J Jx : List (List UInt8) → World → Prop)
   (hY : ∀ pre x W, J pre W → pre.length < len → YieldAt F (n - 1) Tryz.prog l #[encStr x] W fun e W' =>
     (e = .returned (.bool true) ∧ J (pre ++ [x]) W' ∧ Below n₀ W W') ∨ (e = .returned (.bool false) ∧ Jx (pre ++ [x]) W'))
   (W : World) (hBs : W.cell? ⟨Bs, 0, none⟩ = some (.slice (some ⟨b, off, none⟩) len cap)) (hc : ∀ j, j < len → W.cell? ⟨b, off + j, none⟩ = some (encStr (zs[j]?.getD []))) (h0 : J [] W) :
   CallsIn F n Tryz.prog 257 #[.func (.yield l) #[] #[], .pointer (some ⟨Bs, 0, none⟩)] W fun e W' => (∃ v, e = .returned v) ∧
     ((∃ ys, ys = Val.upto (fun j => zs[j]?.getD []) len ∧ J ys W') ∨ (∃ pre, (∃ k, k ≤ len ∧ pre = Val.upto (fun j => zs[j]?.getD []) k) ∧ Jx pre W')) := by
 refine callsIn_of_wp Tryz.func257 rfl h7 ?_ hro
 simp only [Tryz.ntmps257, List.size_toArray, List.length_cons, List.length_nil, Nat.reduceAdd, Nat.reduceSub, Array.replicate_succ, Array.replicate_zero, List.push_toArray, List.append_toArray, List.nil_append, List.cons_append]
 gi_wp2
 gi_loopw [7] (fun i wr => ∃ k : Nat, k ≤ len ∧ i = .int .i64 k ∧ J (Val.upto (fun j => zs[j]?.getD []) k) wr ∧ Below n₀ W wr)
   (fun i _ => len - (intOf i).toNat)
 case atStart => exact ⟨0, Nat.zero_le _, rfl, h0, Below.refl _ _⟩
 case round =>
   obtain ⟨k, hk, rfl, hJs, hnx⟩ := hrel
   have hcx : k < len → wr.cell? ⟨b, off + k, none⟩ = some (encStr (zs[k]?.getD [])) := fun h => (hnx.cell (p := ⟨b, off + k, none⟩) hb).trans (hc k h)
   by_cases hlt : k < len
   · obtain ⟨fn, tmps, assign, body, hy, hR⟩ := hY _ (zs[k]?.getD []) wr hJs (by rw [Val.upto_length]; exact hlt)
     have hcx' := hcx hlt
     gi_wp2
     refine hR.mono ?_
     rintro e W3 (⟨rfl, hJ3, hk3⟩ | ⟨rfl, hJx3⟩)
     · gi_wp2
       go_roundw
       case rel => exact ⟨k + 1, by omega, by simp, by rw [Val.upto_succ]; exact hJ3, hnx.trans hk3⟩
       case measure => simp [intOf]; omega
     · gi_wp2
       refine bodyPost_ret (results_none rfl _ _ _) rfl ?_
       exact ⟨⟨_, rfl⟩, .inr ⟨_, ⟨k + 1, by omega, (Val.upto_succ _ _).symm⟩, hJx3⟩⟩
   · obtain rfl : k = len := by omega
     gi_wp2
     go_end0
     exact ⟨⟨_, rfl⟩, .inl ⟨_, rfl, hJs⟩⟩
theorem Val.upto_take (zs : List (List UInt8)) {k : Nat} (hk : k ≤ zs.length) : Val.upto (fun j => zs[j]?.getD []) k = zs.take k := by
 apply List.ext_getElem
 · simp [Val.upto, hk]
 · intro i h1 h2
   have : i < zs.length := by simp [Val.upto] at h1; omega
   simp [Val.upto, this]
def Val.Strs (n₀ : Nat) (W : World) (sv : Value) (zs : List (List UInt8)) : Prop :=
 (∃ a cap, sv = .slice a 0 cap ∧ zs = []) ∨ ∃ b off cap, sv = .slice (some ⟨b, off, none⟩) zs.length cap ∧ b < n₀ ∧ ∀ j, j < zs.length → W.cell? ⟨b, off + j, none⟩ = some (encStr (zs[j]?.getD []))
theorem Val.Strs.below {n₀ : Nat} {A B : World} (h : Below n₀ A B) {sv : Value} {zs : List (List UInt8)} : Val.Strs n₀ A sv zs → Val.Strs n₀ B sv zs
 | .inl e => .inl e
 | .inr ⟨b, off, cap, e, hb, hc⟩ => .inr ⟨b, off, cap, e, hb, fun j hj => (h.cell (p := ⟨b, off + j, none⟩) hb).trans (hc j hj)⟩
set_option maxRecDepth 100000 in
set_option maxHeartbeats 1000000 in
theorem Val.values1_nil_in (F : Fence) (n : Nat) (h7 : F.fn 257) (hro : F.round = none) (l Bs : Nat) (J : List (List UInt8) → World → Prop) (W : World) (a : Option Addr) (cap : Nat) (hBs : W.cell? ⟨Bs, 0, none⟩ = some (.slice a 0 cap)) (h0 : J [] W) :
   CallsIn F n Tryz.prog 257 #[.func (.yield l) #[] #[], .pointer (some ⟨Bs, 0, none⟩)] W fun e W' => (∃ v, e = .returned v) ∧ J [] W' := by
 refine callsIn_of_wp Tryz.func257 rfl h7 ?_ hro
 simp only [Tryz.ntmps257, List.size_toArray, List.length_cons, List.length_nil, Nat.reduceAdd, Nat.reduceSub, Array.replicate_succ, Array.replicate_zero, List.push_toArray, List.append_toArray, List.nil_append, List.cons_append]
 gi_wp2
 gi_loopw [7] (fun i wr => i = .int .i64 0 ∧ J [] wr) (fun _ _ => 0)
 case atStart => exact ⟨rfl, h0⟩
 case round =>
   obtain ⟨rfl, hJs⟩ := hrel
   gi_wp2
   go_end0
   exact ⟨⟨_, rfl⟩, hJs⟩
set_option maxHeartbeats 1000000 in
theorem Val.values_in (F : Fence) (n : Nat) (h5 : F.fn 210) (hro : F.round = none) (a : Option Addr) (len cap : Nat) (w : World) :
   CallsIn F n Tryz.prog 210 #[.slice a len cap] w fun e w' => e = .returned (.func (.func 257) #[] #[.pointer (some ⟨w.heap.size, 0, none⟩)]) ∧ w' = w.alloc (.cells #[.slice a len cap] 53) := by
 refine callsIn_of_wp Tryz.func210 rfl h5 ?_ hro
 simp only [Tryz.ntmps210, List.size_toArray, List.length_cons, List.length_nil, Nat.reduceAdd, Nat.reduceSub, Array.replicate_succ, Array.replicate_zero, List.push_toArray, List.append_toArray, List.nil_append, List.cons_append]
 gi_wp2
 go_ret
 exact ⟨rfl, rfl⟩
theorem Val.values_stops (F : Fence) (n : Nat) (h7 : F.fn 257) (hro : F.round = none) (hn : 1 ≤ n) (Bs n₀ : Nat) (sv : Value) (zs : List (List UInt8)) (hreach : zs.length * 8 ≤ 140737488351232) (w : World) (hBs : Bs < w.heap.size) (hn₀ : n₀ ≤ w.heap.size)
   (hc : w.cell? ⟨Bs, 0, none⟩ = some sv) (hI : Val.Strs n₀ w sv zs) :
   SeqStopsK F n Tryz.prog 257 #[.pointer (some ⟨Bs, 0, none⟩)] (fun x : List UInt8 => #[encStr x]) (Below n₀) (fun ys => ys = zs) (fun pre => pre <+: zs) zs.length w := fun l J Jx W hW _ _ hY h0 => by
 have hc' := (hW.cell (p := ⟨Bs, 0, none⟩) hBs).trans hc
 rcases hI.below (hW.mono hn₀) with ⟨a, cap, rfl, rfl⟩ | ⟨b, off, cap, rfl, hb, hcs⟩
 · exact (Val.values1_nil_in F n h7 hro l Bs J W a cap hc' h0).mono fun e W' ⟨he, hj⟩ => ⟨he, .inl ⟨_, rfl, hj⟩⟩
 · refine (Val.values1_in F n h7 hro hn l Bs n₀ b off zs.length cap zs hreach hb J Jx hY W hc' hcs h0).mono ?_
   rintro e W' ⟨he, ⟨ys, rfl, hj⟩ | ⟨pre, ⟨k, hk, rfl⟩, hj⟩⟩
   · exact ⟨he, .inl ⟨_, Val.upto_all zs, hj⟩⟩
   · exact ⟨he, .inr ⟨_, by rw [Val.upto_take zs hk]; exact List.take_prefix _ _, hj⟩⟩
theorem Val.infoS : (Tryz.prog.info? 9).map (fun i => (i.zero, i.size, i.bytes)) = some (some (.string ⟨#[]⟩), 1, 16) := by kernel_rfl
set_option maxRecDepth 100000 in
set_option maxHeartbeats 2000000 in
theorem Val.append_in (F : Fence) (n : Nat) (h3 : F.fn 196) (h5 : F.fn 257) (hro : F.round = none) (hn : 3 ≤ n) (Bs : Nat) (sv : Value) (zs : List (List UInt8)) (hlen : zs.length ≤ maxLen) (hbytes : zs.length * 16 ≤ 140737488351232) (w : World) (hBs : Bs < w.heap.size)
   (hc : w.cell? ⟨Bs, 0, none⟩ = some sv) (hI : Val.Strs w.heap.size w sv zs) :
   CallsIn F n Tryz.prog 196 #[.slice none 0 0, .func (.func 257) #[] #[.pointer (some ⟨Bs, 0, none⟩)]] w fun e W' => ∃ v, e = .returned v ∧ W'.ownsRow w.heap.size 9 1 v zs.length (zs.map encStr) ∧ Below w.heap.size w W' := by
 have h1 : 1 ≤ n := by omega
 obtain ⟨i0, hi, hz0, hz1, hz2⟩ := info_parts Val.infoS
 refine callsIn_of_wp_marks Tryz.func196 rfl h3 ?_ hro
 simp only [Tryz.ntmps196, List.size_toArray, List.length_cons, List.length_nil, Nat.reduceAdd, Nat.reduceSub, Array.replicate_succ, Array.replicate_zero, List.push_toArray, List.append_toArray, List.nil_append, List.cons_append]
 gi_wp2
 have bO := Boxed.new w 53 (.slice none 0 0)
 have hB0 : Below w.heap.size w (w.alloc (.cells #[.slice none 0 0] 53)) := (Below.refl _ w).alloc (Nat.le_refl _) _
 refine wpIn_rangeFunc_ownG hro h1 (gf := 257) (lb := #[.pointer (some ⟨Bs, 0, none⟩)]) rfl h5 (enters_of Tryz.func257 (by kernel_rfl) rfl)
   (Val.values_stops F (n - 1) h5 hro (by omega) Bs w.heap.size sv zs (by omega) _ (by simp; omega) (by simp) ((hB0.cell (p := ⟨Bs, 0, none⟩) hBs).trans hc) (hI.below hB0)) belowK_t (belowK_b (by simp)) (Below.refl _ _) (fun _ => rfl)
   (fun pre W => (∃ v, Boxed W w.heap.size 53 v ∧ W.ownsRow w.heap.size 9 1 v pre.length (pre.map encStr) ∧ True) ∧ Below w.heap.size w W)
   (fun _ _ _ => False)
   (OwnFrom.and (Own.from (holdsRow_own w.heap.size w.heap.size 53 9 1 (fun pre : List (List UInt8) => pre.length) (fun pre => pre.map encStr) (fun pre v => True)) _) (ownFrom_below (Nat.le_refl _) (by simp)))
   (fun _ _ _ _ _ hs _ _ => hs)
   ⟨⟨_, bO, World.ownsRow_nil _ _ _ _, trivial⟩, hB0⟩
   (fun x => { tmps := #[.slice none 0 0, .func (.func 257) #[] #[.pointer (some ⟨Bs, 0, none⟩)], .pointer (some ⟨w.heap.size, 0, none⟩), undef, .slice none 0 0, encStr x, .func (.func 257) #[] #[.pointer (some ⟨Bs, 0, none⟩)], encStr x, undef, undef, undef, undef, undef], defers := [] }) ?assign ?body ?done ?stop
 case assign =>
   intro l x W K hK
   gi_wp2
   exact hK
 case body =>
   rintro l pre x W ⟨⟨v, hv, hrow, hnil⟩, hB⟩ hlt
   have hc := hv.cell
   gi_wp2_with (gi_at_builtin; refine wpListIn_append_own _ rfl _ _ 53 rfl w.heap.size 9 i0 (.string ⟨#[]⟩) 1 16 Tryz.underlying53 hi hz0 hz1 hz2 rfl (by decide) _ _ _ rfl (hrow.alloc _) ⟨W.heap.size, 0, none⟩ 1 1 [encStr x] rfl rfl (cell_one_new _ _ _) (by simp [Value.oneCell']) (by omega) (by omega) (by have := hB.size; simp; omega) ?_; intro v' w1 hown' hgrow _; obtain ⟨g', cap', rfl⟩ := ownsRow_succ hown'; obtain ⟨hv1, hv2, hr2, hk2, hb2⟩ := hv.appended (by decide) hrow hB.size (Nat.le_refl _) hown' hgrow; have hc1 := hv1.cell; have hf1 := hv1.frozen)
   exact ⟨hk2.from _, hb2, ⟨_, hv2, by simpa using hr2, trivial⟩, hB.trans hb2⟩
 case done =>
   rintro D ys W hD rfl ⟨⟨v, hv, hrow, hnil⟩, hB⟩ hK
   have hc := hv.cell
   gi_wp2
   refine ⟨by simp, .inl ⟨_, _, rfl, run_takeDeferred hK, ?_⟩⟩
   exact ⟨_, results_tmp rfl _ _ _, v, rfl, ownsRow_putObj hrow _ hK rfl, hB.trans (belowK_b (w := w) (Nat.le_refl _) W D _ _ (by simp at hD; omega) hK rfl rfl)⟩
 case stop =>
   rintro D c pre W _ _ h _
   exact h.elim
set_option maxHeartbeats 1000000 in
theorem Val.collect_in (F : Fence) (n : Nat) (h8 : F.fn 116) (h3 : F.fn 196) (h5 : F.fn 257) (hro : F.round = none) (hn : 4 ≤ n) (Bs : Nat) (sv : Value) (zs : List (List UInt8)) (hlen : zs.length ≤ maxLen) (hbytes : zs.length * 16 ≤ 140737488351232) (w : World) (hBs : Bs < w.heap.size)
   (hc : w.cell? ⟨Bs, 0, none⟩ = some sv) (hI : Val.Strs w.heap.size w sv zs) :
   CallsIn F n Tryz.prog 116 #[.func (.func 257) #[] #[.pointer (some ⟨Bs, 0, none⟩)]] w fun e W' => ∃ v, e = .returned v ∧ W'.ownsRow w.heap.size 9 1 v zs.length (zs.map encStr) ∧ Below w.heap.size w W' := by
 have h1 : 1 ≤ n := by omega
 refine callsIn_of_wp Tryz.func116 rfl h8 ?_ hro
 simp only [Tryz.ntmps116, List.size_toArray, List.length_cons, List.length_nil, Nat.reduceAdd, Nat.reduceSub, Array.replicate_succ, Array.replicate_zero, List.push_toArray, List.append_toArray, List.nil_append, List.cons_append]
 gi_wp2_with (gi_at_call 196; refine (Val.append_in F (n - 1) h3 h5 hro (by omega) Bs sv zs hlen hbytes _ hBs hc hI).mono ?_; rintro e w' ⟨v, rfl, hrow, hb⟩)
 go_ret
 exact ⟨v, rfl, hrow, hb⟩
set_option maxHeartbeats 1000000 in
theorem Val.sorted_in (F : Fence) (n : Nat) (h6 : F.fn 173) (h9 : F.fn 58) (h8 : F.fn 116) (h3 : F.fn 196) (h5 : F.fn 257) (hro : F.round = none) (hn : 5 ≤ n) (hsort : AnyZ.SortsIn Tryz.prog Tryz.sortedL_ren F (n - 1)) (Bs : Nat) (sv : Value) (zs : List (List UInt8)) (hlen : zs.length ≤ maxLen) (hbytes : zs.length * 16 ≤ 140737488351232) (w : World) (hBs : Bs < w.heap.size)
   (hc : w.cell? ⟨Bs, 0, none⟩ = some sv) (hI : Val.Strs w.heap.size w sv zs) :
   CallsIn F n Tryz.prog 173 #[.func (.func 257) #[] #[.pointer (some ⟨Bs, 0, none⟩)]] w fun e W' => ∃ v, e = .returned v ∧ W'.ownsRow w.heap.size 9 1 v zs.length ((zs.mergeSort (fun x y => decide (x ≤ y))).map encStr) ∧ Below w.heap.size w W' := by
 have h1 : 1 ≤ n := by omega
 refine callsIn_of_wp Tryz.func173 rfl h6 ?_ hro
 simp only [Tryz.ntmps173, List.size_toArray, List.length_cons, List.length_nil, Nat.reduceAdd, Nat.reduceSub, Array.replicate_succ, Array.replicate_zero, List.push_toArray, List.append_toArray, List.nil_append, List.cons_append]
 gi_wp2_with (gi_at_call 116; refine (Val.collect_in F (n - 1) h8 h3 h5 hro (by omega) Bs sv zs hlen hbytes _ hBs hc hI).mono ?_; rintro e W ⟨v, rfl, hrow, hb⟩)
 rcases hrow.2 with ⟨rfl, hz⟩ | ⟨gb, cap, cur, rfl, hbase, hgb, r1, r2, r3, r4⟩
 · have hss : zs = [] := List.eq_nil_of_length_eq_zero hz
   subst hss
   gi_wp2_with (gi_at_call 58; refine (hsort.2 none 0 W).mono ?_; rintro e w' ⟨rfl, rfl⟩)
   go_ret
   exact ⟨.slice none 0 0, rfl, by simpa using hrow, hb⟩
 · have hH : Holds encStr W gb 0 zs.toArray := holds_of_block hgb (by simpa using r4)
   have hgl : gb < W.heap.size := (Array.getElem?_eq_some_iff.1 hgb).1
   have hsz : zs.length < 4611686018427387904 := by omega
   have cS := hsort.1 gb 0 cap zs W hH hgl hsz
   gi_wp2_with (gi_at_call 58; refine cS.mono ?_; rintro e w' ⟨rfl, nn, os, rfl⟩)
   go_ret
   exact ⟨_, rfl, ownsRow_sorted (by simp) hbase hgb r1 r2 r3, hb.grown (grownBy_sorted _) hb.size (fun j hj => by cases hj; exact hbase)⟩
theorem Val.sorts (m : Nat) : AnyZ.SortsIn Tryz.prog Tryz.sortedL_ren Fence.wide m :=
 ⟨fun blk off cap ss W hH hblk hsz => callsIn_wide.2 (AnyM.slices_Sort_string Tryz.sortL blk off cap ss W hH hblk hsz),
  fun p cap W => callsIn_wide.2 (AnyM.slices_Sort_string_none Tryz.sortL p cap W)⟩
set_option maxHeartbeats 2000000 in
theorem Val.unlike (a : Option Addr) (cap : Nat) (zs : List (List UInt8)) (hbytes : zs.length * 16 ≤ 140737488351232) (w : World) (hI : Val.Strs w.heap.size w (.slice a zs.length cap) zs) :
   CallsIn Fence.wide 6 Tryz.prog 144 #[.slice a zs.length cap] w fun e W' => e = .returned (.bool ((Lib.compact (zs.mergeSort (fun x y => decide (x ≤ y)))).length == zs.length)) ∧ Below w.heap.size w W' := by
 have h1 : 1 ≤ 6 := by omega
 have hro : Fence.wide.round = none := rfl
 have hfw : ∀ f, Fence.wide.fn f := fun _ => trivial
 have hU := hfw 144
 have hV := hfw 210
 have hS := hfw 173
 have hC := hfw 59
 refine callsIn_of_wp Tryz.func144 rfl hU ?_ hro
 simp only [Tryz.ntmps144, List.size_toArray, List.length_cons, List.length_nil, Nat.reduceAdd, Nat.reduceSub, Array.replicate_succ, Array.replicate_zero, List.push_toArray, List.append_toArray, List.nil_append, List.cons_append]
 have hb0 : Below w.heap.size w (w.alloc (.cells #[.slice a zs.length cap] 53)) := (Below.refl _ w).alloc (Nat.le_refl _) _
 have hcell : (w.alloc (.cells #[.slice a zs.length cap] 53)).cell? ⟨w.heap.size, 0, none⟩ = some (.slice a zs.length cap) := (Boxed.new w 53 (.slice a zs.length cap)).cell
 have hI1 : Val.Strs (w.alloc (.cells #[.slice a zs.length cap] 53)).heap.size (w.alloc (.cells #[.slice a zs.length cap] 53)) (.slice a zs.length cap) zs := by
   rcases hI.below hb0 with h | ⟨b, off, c, h2, h3, h4⟩
   · exact .inl h
   · exact .inr ⟨b, off, c, h2, by simp; omega, h4⟩
 have hS0 := Val.sorted_in Fence.wide 5 (hfw _) (hfw _) (hfw _) (hfw _) (hfw _) hro (by omega) (Val.sorts _) w.heap.size (.slice a zs.length cap) zs (by simp only [maxLen]; omega) hbytes _ (by simp) hcell hI1
 gi_wp2_with (first
   | (gi_at_call 210; refine (Val.values_in Fence.wide 5 hV hro _ _ _ _).mono ?_; rintro e w' ⟨rfl, rfl⟩)
   | (gi_at_call 173; refine hS0.mono ?_; rintro e W ⟨v, rfl, hrow, hb⟩))
 have hbw : Below w.heap.size w W := hb0.trans (hb.mono (by simp))
 have hbase : w.heap.size ≤ (w.alloc (.cells #[.slice a zs.length cap] 53)).heap.size := by simp
 have hslen : (zs.mergeSort (fun x y => decide (x ≤ y))).length = zs.length := by simp
 rcases hrow.2 with ⟨rfl, hz⟩ | ⟨gb, cap2, cur, rfl, hbs, hgb, r1, r2, r3, r4⟩
 · have hss : zs = [] := List.eq_nil_of_length_eq_zero hz
   subst hss
   gi_wp2_with (gi_at_call 59; refine (callsIn_wide.2 (AnyG.slices_Compact_string_empty Tryz.compactL none 0 W)).mono ?_; rintro e w' ⟨rfl, rfl⟩)
   go_ret
   exact ⟨by simp [Lib.compact, Lib.compactUpTo], hbw⟩
 · have hH : Holds encStr W gb 0 (zs.mergeSort (fun x y => decide (x ≤ y))).toArray := holds_of_block hgb (by simpa using r4)
   have cC := AnyG.slices_Compact_string Tryz.compactL gb 0 cap2 (zs.mergeSort (fun x y => decide (x ≤ y))) W hH (by rw [hslen]; omega) (by rw [hslen]; exact r1)
   rw [hslen] at cC
   gi_wp2_with (gi_at_call 59; refine (callsIn_wide.2 cC).mono ?_; rintro e w' ⟨rfl, q, rfl⟩)
   go_ret
   refine ⟨?_, ?_⟩
   · have : ((((Lib.compact (zs.mergeSort (fun x y => decide (x ≤ y)))).length : Nat) : Int) == ((zs.length : Nat) : Int)) = ((Lib.compact (zs.mergeSort (fun x y => decide (x ≤ y)))).length == zs.length) := by
       rw [Bool.eq_iff_iff]; simp; omega
     rw [← this]
     rfl
   · refine hbw.trans ?_
     have hg := grownBy_sorted (w := W) (g := gb) (n := q) (os := #[]) (Lib.compact (zs.mergeSort (fun x y => decide (x ≤ y))) ++ List.replicate (zs.length - (Lib.compact (zs.mergeSort (fun x y => decide (x ≤ y)))).length) []).toArray
     have he : ∀ W : World, grow W #[] = W := fun W => by simp [grow]
     rw [he] at hg
     exact (Below.refl w.heap.size W).grown hg hbw.size (fun j hj => by cases hj; omega)
theorem Val.keeps_iff (zs : List (List UInt8)) : (Lib.compact zs).length = zs.length ↔ ∀ j, j < zs.length → Lib.keeps zs.toArray j = true := by
 have e : (Lib.compact zs).length = ((List.range zs.length).filter (Lib.keeps zs.toArray)).length := by simp [Lib.compact, Lib.compactUpTo]
 rw [e]
 constructor
 · intro h j hj
   have h2 : ((List.range zs.length).filter (Lib.keeps zs.toArray)) = List.range zs.length := List.filter_sublist.eq_of_length (by rw [h]; simp)
   exact (List.mem_filter.1 (h2.symm ▸ List.mem_range.2 hj)).2
 · intro h
   rw [List.filter_eq_self.2 (fun j hj => h j (List.mem_range.1 hj))]
   simp
theorem Val.compact_nodup (zs : List (List UInt8)) : ((Lib.compact (zs.mergeSort (fun x y => decide (x ≤ y)))).length == zs.length) = decide zs.Nodup := by
 have tr : ∀ a b c : List UInt8, leB a b = true → leB b c = true → leB a c = true := fun a b c h1 h2 => by simp only [leB, decide_eq_true_eq] at *; exact List.le_trans h1 h2
 have to : ∀ a b : List UInt8, (leB a b || leB b a) = true := fun a b => by simp only [leB, Bool.or_eq_true, decide_eq_true_eq]; exact List.le_total a b
 have hs := List.pairwise_mergeSort tr to zs
 have hnd := (List.mergeSort_perm zs leB).nodup_iff
 have hlen : (zs.mergeSort leB).length = zs.length := by simp
 show ((Lib.compact (zs.mergeSort leB)).length == zs.length) = _
 rw [← hlen]
 generalize zs.mergeSort leB = ys at hs hnd
 rw [Bool.eq_iff_iff, beq_iff_eq, decide_eq_true_iff, Val.keeps_iff, ← hnd]
 have kp : ∀ j (hj : j < ys.length), Lib.keeps ys.toArray j = true ↔ j = 0 ∨ ∀ (h0 : j - 1 < ys.length), ys[j] ≠ ys[j - 1] := fun j hj => by
   have h0 : j - 1 < ys.length := by omega
   simp only [Lib.keeps, decide_eq_true_eq]
   rw [getElem!_pos ys.toArray j (by simpa using hj), getElem!_pos ys.toArray (j - 1) (by simpa using h0)]
   simp only [List.getElem_toArray, ne_eq]
   exact ⟨fun h => h.imp_right fun h _ => h, fun h => h.imp_right fun h => h h0⟩
 constructor
 · intro h
   rw [List.nodup_iff_pairwise_ne, List.pairwise_iff_getElem]
   rw [List.pairwise_iff_getElem] at hs
   intro i j hi hj hij e
   -- between i and j all are equal
   have hle1 : ys[i] ≤ ys[j - 1] := by
     by_cases hx : i = j - 1
     · subst hx; exact List.le_refl _
     · simpa [leB] using hs i (j - 1) hi (by omega) (by omega)
   have hle2 : ys[j - 1] ≤ ys[j] := by simpa [leB] using hs (j - 1) j (by omega) hj (by omega)
   rcases (kp j hj).1 (h j hj) with h0 | h0
   · omega
   · exact h0 (by omega) (List.le_antisymm (by rw [← e]; exact hle1) hle2)
 · intro h j hj
   rw [List.nodup_iff_pairwise_ne, List.pairwise_iff_getElem] at h
   refine (kp j hj).2 ?_
   by_cases h0 : j = 0
   · exact .inl h0
   · exact .inr fun h1 => (h (j - 1) j h1 hj (by omega)).symm
end Go.Proofs
