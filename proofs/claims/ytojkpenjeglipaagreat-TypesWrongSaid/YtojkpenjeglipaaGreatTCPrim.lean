import Derived.Test.YtojkpenjeglipaaGreatTAxU
import Derived.Test.YtojkpenjeglipaaGreatTCVal
import Derived.Test.YtojkpenjeglipaaGreatTCVX
set_option linter.unusedVariables false
namespace Go.Ax
open Go.RowKit Go.Proofs Go.Maps Go.Sort Go.Shelf
theorem Bw8 (vs : Array Value) (w : World) : (callFunc Mu vs).run PR w = .ok (.enter Mu vs) w := Tryz.call144 vs w
theorem Cb4 {M : Mem} {B : Nat} {w0 : World} {g : Nam} {st : List Content} {w : World} (hs : SRel PR B w0 M g st w) {v : Value} {ys : List ByteArray} (h : RepD M v (.sl (Xr ys))) :
   ∃ a cap, v = .slice a ys.length cap ∧ Val.Strs w.heap.size w v (ys.map (fun y => y.data.toList)) := by
 generalize hd : D.sl (Xr ys) = d at h
 cases h with
 | bool => cases hd
 | int => cases hd
 | str => cases hd
 | nil =>
   have : ys = [] := by
     cases ys with
     | nil => rfl
     | cons y r => simp [Xr] at hd
   subst this
   exact ⟨none, 0, rfl, .inl ⟨none, 0, rfl, rfl⟩⟩
 | sl a cap size rows val hc hsz hm hr =>
   have hrows : rows = Xr ys := by simpa using hd.symm
   have hlen : rows.length = ys.length := by rw [hrows]; simp [Xr]
   refine ⟨some a, cap, by rw [hlen], ?_⟩
   by_cases h0 : ys.length = 0
   · exact .inl ⟨some a, cap, by rw [hlen, h0], by rw [List.eq_nil_of_length_eq_zero h0]; rfl⟩
   · have row : ∀ i (hi : i < ys.length), rows[i]? = some [.str ys[i]] := fun i hi => by rw [hrows]; simp [Xr, hi]
     have hsize : size = 1 := by have := hsz 0 _ (row 0 (by omega)); simpa using this.symm
     subst hsize
     have cell : ∀ i (hi : i < ys.length), w.cell? (a.add i) = some (.string ys[i]) := fun i hi => by
       have h1 := hm i _ 0 _ (row i hi) rfl
       have h2 := hr i _ 0 _ (row i hi) rfl
       rw [show i * 1 + 0 = i by omega] at h1
       generalize val i 0 = u at h1 h2
       cases h2
       exact hs.mem _ _ h1
     have c0 := cell 0 (by omega)
     rw [WJ] at c0
     have hsp : a.spot = none := by
       cases hsp : a.spot with
       | none => rfl
       | some q => simp only [World.cell?, hsp] at c0; split at c0 <;> simp at c0
     have ha : ∀ j, a.add j = ⟨a.block, a.off + j, none⟩ := fun j => by
       unfold Addr.add
       split
       · rename_i e; subst e; cases a; simp_all
       · rfl
     have hb : a.block < w.heap.size := World.block_lt_of_cell? w a c0
     refine .inr ⟨a.block, a.off, cap, ?_, hb, fun j hj => ?_⟩
     · have := ha 0
       rw [WJ, Nat.add_zero] at this
       rw [← this, hlen]
       simp
     · have hj' : j < ys.length := by simpa using hj
       rw [← ha, cell j hj']
       simp [hj', encStr]
theorem Bg5 {st : List Content} (ys : List ByteArray) (hb : ys.length * 16 ≤ 140737488351232) : Aw PR Mu [.d (.sl (Xr ys))] st (fun p st' => p = .d (.bool (decide ys.Nodup)) ∧ st' = st) := by
 refine Aw.of_calls (Q := fun p => p = .d (.bool (decide ys.Nodup))) Bw8 fun B w0 M g w vs hs hr => ?_
 obtain ⟨v, hv, hrv⟩ := hr.get (i := 0) rfl
 have hvs : vs = [v] := by
   have hl := hr.1
   match vs, hl, hv with
   | [u], _, hv => simpa using hv
 subst hvs
 cases hrv with
 | d hd =>
   obtain ⟨a, cap, rfl, hS⟩ := Cb4 hs hd
   have hl : (ys.map (fun y => y.data.toList)).length = ys.length := by simp
   have hcall := Val.unlike a cap (ys.map (fun y => y.data.toList)) (by rw [hl]; exact hb) w (by rw [hl]; exact hS)
   rw [hl, ← hl, Val.compact_nodup, hl] at hcall
   refine (callsIn_wide.1 hcall).mono fun en w' ⟨q1, q2⟩ => ?_
   refine ⟨_, _, M, q1, q2, MLe.refl M, fun a u e ha => by have := PN hs e; omega, fun _ _ => rfl, .d (.bool _), ?_⟩
   have hinj : (ys.map (fun y => y.data.toList)).Nodup ↔ ys.Nodup := by
     rw [List.nodup_iff_pairwise_ne, List.pairwise_map, List.nodup_iff_pairwise_ne]
     refine ⟨fun h => h.imp fun {x y} hne e => hne (by rw [e]), fun h => h.imp fun {x y} hne e => hne ?_⟩
     have : x.data = y.data := by apply Array.ext'; exact e
     cases x; cases y; simp_all
   rw [decide_eq_decide.2 hinj]
theorem Bp9 {st : List Content} (p0 : List ByteArray) {r : Bool} (hr : TW p0 = some r) {K : PV → List Content → Prop} (h : K (.d (.bool r)) st) : Aw PR Mu [.d (.sl (List.map rS p0))] st K := by
 unfold TW at hr
 split at hr
 · rename_i hb
   cases hr
   exact (Bg5 p0 hb).mono fun p st' hp => by rw [hp.1, hp.2]; exact h
 · cases hr
end Go.Ax
