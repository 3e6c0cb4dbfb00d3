import Derived.Test.YtojkpenjeglipaaIAxU
import Derived.Test.YtojkpenjeglipaaICVal
import Derived.Test.YtojkpenjeglipaaICVX
set_option linter.unusedVariables false
set_option linter.unusedSimpArgs false
namespace Go.Ax
open Go.RowKit Go.Proofs Go.Maps Go.Sort Go.Shelf
theorem Ai7 (vs : Array Value) (w : World) : (callFunc C9 vs).run PR w = .ok (.enter C9 vs) w := Try.call33 vs w
theorem Au9 (vs : Array Value) (w : World) : (callFunc Hj vs).run PR w = .ok (.enter Hj vs) w := Try.call51 vs w
theorem Aq1 (vs : Array Value) (w : World) : (callFunc Bc vs).run PR w = .ok (.enter Bc vs) w := Try.call52 vs w
theorem Ai5 (vs : Array Value) (w : World) : (callFunc Ld vs).run PR w = .ok (.enter Ld vs) w := Try.call55 vs w
theorem AP7 {st : List Content} {t : Nat} (ht : t < st.length) : Aw PR Bx [.map t] st (fun p st' => p = .fn Bc [] [.ptr st.length 0] ∧ st' = st ++ [.box [.map t]]) := by
 refine Aw.of_own Ho (by simp) fun hwf => ?_
 simp [Ek, DF, DD, BL, ER, xop, ev, upd, XS.put, Fz, AF2, EV, Se, G2, Ms, PV.cells, PV.one]
 refine ⟨st.length + 1, by omega, by simp [cutV, AJ, AJ.belowL], Xu (hwf.push fun cells e => ?_) (by simp)⟩
 cases e
 simp [AJ.belowL, AJ]
 omega
theorem Ah6 {st : List Content} {x t : Nat} {e : TypeId} {ks : List ByteArray} (hx : st[x]? = some (.box [.map t])) (ht : st[t]? = some (.map 9 e ks)) (hn : ks.length * 16 ≤ 140737488355328) :
   Aw PR C9 [.fn Bc [] [.ptr x 0]] st (fun p st' => (∃ ys, p = .d (.sl (Hh ys)) ∧ He ys ∧ ∀ s, s ∈ ys ↔ s ∈ ks) ∧ st' = st) :=
 acalls_sortedKeys (ρK := Try.keysL_ren) (ρS := Try.sortedL_ren) { Try.keysL with } Try.sortedL Val.sorts Ai7 Au9 Aq1 hx ht hn
theorem AK7 {M : Mem} {B : Nat} {w0 : World} {g : Nam} {st : List Content} {w : World} (hs : SRel PR B w0 M g st w) {v : Value} {ys : List ByteArray} (h : RepD M v (.sl (Hh ys))) :
   ∃ a cap, v = .slice a ys.length cap ∧ Val.Strs w.heap.size w v (ys.map (fun y => y.data.toList)) := by
 generalize hd : D.sl (Hh ys) = d at h
 cases h with
 | bool => cases hd
 | int => cases hd
 | str => cases hd
 | nil =>
   have : ys = [] := by
     cases ys with
     | nil => rfl
     | cons y r => simp [Hh] at hd
   subst this
   exact ⟨none, 0, rfl, .inl ⟨none, 0, rfl, rfl⟩⟩
 | sl a cap size rows val hc hsz hm hr =>
   have hrows : rows = Hh ys := by simpa using hd.symm
   have hlen : rows.length = ys.length := by rw [hrows]; simp [Hh]
   refine ⟨some a, cap, by rw [hlen], ?_⟩
   by_cases h0 : ys.length = 0
   · exact .inl ⟨some a, cap, by rw [hlen, h0], by rw [List.eq_nil_of_length_eq_zero h0]; rfl⟩
   · have row : ∀ i (hi : i < ys.length), rows[i]? = some [.str ys[i]] := fun i hi => by rw [hrows]; simp [Hh, hi]
     have hsize : size = 1 := by have := hsz 0 _ (row 0 (by omega)); simpa using this.symm
     subst hsize
     have cell : ∀ i (hi : i < ys.length), w.cell? (a.add i) = some (.string ys[i]) := fun i hi => by
       have h1 := hm i _ 0 _ (row i hi) rfl
       have h2 := hr i _ 0 _ (row i hi) rfl
       rw [show i * 1 + 0 = i by omega] at h1
       generalize val i 0 = u at h1 h2
       cases h2
       exact hs.mem _ _ h1
     have c0 := cell 0 (by omega)
     rw [K6] at c0
     have hsp : a.spot = none := by
       cases hsp : a.spot with
       | none => rfl
       | some q => simp only [World.cell?, hsp] at c0; split at c0 <;> simp at c0
     have ha : ∀ j, a.add j = ⟨a.block, a.off + j, none⟩ := fun j => by
       unfold Addr.add
       split
       · rename_i e; subst e; cases a; simp_all
       · rfl
     have hb : a.block < w.heap.size := World.block_lt_of_cell? w a c0
     refine .inr ⟨a.block, a.off, cap, ?_, hb, fun j hj => ?_⟩
     · have := ha 0
       rw [K6, Nat.add_zero] at this
       rw [← this, hlen]
       simp
     · have hj' : j < ys.length := by simpa using hj
       rw [← ha, cell j hj']
       simp [hj', encStr]
theorem AH5 {st : List Content} (ys : List ByteArray) (hb : ys.length * 16 ≤ 140737488351232) : Aw PR Ld [.d (.sl (Hh ys))] st (fun p st' => p = .d (.bool (decide ys.Nodup)) ∧ st' = st) := by
 refine Aw.of_calls (Q := fun p => p = .d (.bool (decide ys.Nodup))) Ai5 fun B w0 M g w vs hs hr => ?_
 obtain ⟨v, hv, hrv⟩ := hr.get (i := 0) rfl
 have hvs : vs = [v] := by
   have hl := hr.1
   match vs, hl, hv with
   | [u], _, hv => simpa using hv
 subst hvs
 cases hrv with
 | d hd =>
   obtain ⟨a, cap, rfl, hS⟩ := AK7 hs hd
   have hl : (ys.map (fun y => y.data.toList)).length = ys.length := by simp
   have hcall := Val.unlike a cap (ys.map (fun y => y.data.toList)) (by rw [hl]; exact hb) w (by rw [hl]; exact hS)
   rw [hl, ← hl, Val.compact_nodup, hl] at hcall
   refine (callsIn_wide.1 hcall).mono fun en w' ⟨q1, q2⟩ => ?_
   refine ⟨_, _, M, q1, q2, MLe.refl M, fun a u e ha => by have := Jq hs e; omega, fun _ _ => rfl, .d (.bool _), ?_⟩
   have hinj : (ys.map (fun y => y.data.toList)).Nodup ↔ ys.Nodup := by
     rw [List.nodup_iff_pairwise_ne, List.pairwise_map, List.nodup_iff_pairwise_ne]
     refine ⟨fun h => h.imp fun {x y} hne e => hne (by rw [e]), fun h => h.imp fun {x y} hne e => hne ?_⟩
     have : x.data = y.data := by apply Array.ext'; exact e
     cases x; cases y; simp_all
   rw [decide_eq_decide.2 hinj]
theorem Ad7 {st : List Content} (p0 : List ByteArray) {r : Bool} (hr : M4 p0 = some r) {K : PV → List Content → Prop} (h : K (.d (.bool r)) st) : Aw PR Ld [.d (.sl (List.map rS p0))] st K := by
 unfold M4 at hr
 split at hr
 · rename_i hb
   cases hr
   exact (AH5 p0 hb).mono fun p st' hp => by rw [hp.1, hp.2]; exact h
 · cases hr
theorem AA1 {B l : List Content} {n0 k t : Nat} (hn : B.length = n0) (hk : l.length = k) (ht : t < (B ++ l).length) : Aw PR Bx [.map t] (B ++ l) (fun p st' => p = .fn Bc [] [.ptr (n0 + k) 0] ∧ st' = B ++ (l ++ [.box [.map t]])) := by
 subst hn; subst hk
 rw [← List.append_assoc, ← List.length_append]
 exact AP7 ht
theorem WH {st : List Content} {x t : Nat} {e : TypeId} {ks : List ByteArray} (hx : st[x]? = some (.box [.map t])) (ht : st[t]? = some (.map AD e ks)) {r : List ByteArray} (hr : K9 ks = some r) {K : PV → List Content → Prop} (h : K (.d (.sl (List.map rS r))) st) :
   Aw PR C9 [.fn Bc [] [.ptr x 0]] st K := by
 unfold K9 at hr
 split at hr
 · rename_i hb
   cases hr
   refine (Ah6 hx ht hb).mono fun p st' ⟨⟨ys, hp, h1, h2⟩, hst⟩ => ?_
   have : ys = QI ks := rising_ext h1 (K3 ks) fun s => (h2 s).trans Rk.symm
   rw [hp, hst, this]
   exact h
 · cases hr
end Go.Ax
