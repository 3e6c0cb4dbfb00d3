import Derived.Test.YtojkpenjeglipaaPYT
import Derived.Test.YtojkpenjeglipaaPCVX
import Derived.Test.YtojkpenjeglipaaPCPrim
set_option linter.unusedVariables false
set_option linter.unusedSimpArgs false
namespace Go.Ax
attribute [local irreducible] BQ EX FK Bg CQ FI B8 Le Ii upd ev u0 Dw frz A9 EK mmD bnd B2 FD Dq CR G3 HS Hg cutV JT Cy
variable {st : List Content}
def BW (p0 : (List TE)) (fn1 : TE → Option Bool) (q0 : Int → Option Int) (v1 : Int) : Option Int :=
 (bif (decide (v1 < (p0.length : Int))) then ((Dd p0 v1).bind fun v2 => ((fn1 v2).bind fun v3 => (bif v3 then some v1 else q0 (IntKind.wrap .i64 (v1 + (1 : Int)))))) else some (-1))
def AR (p0 : (List TE)) (fn1 : TE → Option Bool) : Nat → Int → Option Int
 | 0, _ => none
 | m + 1, v1 => BW p0 fn1 (AR p0 fn1 m) v1
def BO (n : Nat) (p0 : (List TE)) (fn1 : TE → Option Bool) : Option Int :=
 (AR p0 fn1 n (0 : Int))
set_option maxRecDepth 100000 in
set_option maxHeartbeats 4000000 in
theorem Im (n : Nat) (p0 : (List TE)) (fn1 : TE → Option Bool) {g_fn1 : FuncId} {p_fn1 q_fn1 : List PV} (H_fn1 : ∀ (a0 : TE) {r : Bool}, fn1 a0 = some r → ∀ {st : List Content} {K : PV → List Content → Prop}, K (.d (.bool r)) st → Av PR g_fn1 (p_fn1 ++ [(.agg [(.d (.int .i64 a0.Op)), (.d (.int .i64 a0.N)), (.d (.str a0.S)), (.d (.str a0.Name)), (.d (.str a0.Src)), (.d (.sl (List.map TE.row a0.Args)))])] ++ q_fn1) st K) (B_fn1 : ∀ n, (AK.belowL n p_fn1 && AK.belowL n q_fn1) = true) {r : Int} (hr : BO n p0 fn1 = some r) {K : PV → List Content → Prop} (h : K (.d (.int .i64 r)) st) : Av PR De [(.d (.sl (List.map TE.row p0))), (.fn g_fn1 p_fn1 q_fn1)] st K := by
 refine Av.of Ik (Nat.le_of_ble_eq_true rfl) fun hwf => ?_
 rw [Ed]
 refine AQ ?_
 unfold E0
 rw [BO] at hr
 refine Al (Af ?_)
 unfold ED
 refine Ab e_c (Aa (Ae (Al (Al (Af ?_)))))
 unfold EC
 refine Ab (e_t (em rfl eh)) ?_
 refine Bh (row := TE.row) (AP (e_t eh) Bt) ?_
 refine Ab e_c (Aa (Ae ?_))
 refine AT ?_
 refine BX (fun m f st' => ∃ (v1 : Int), AR p0 fn1 m v1 = some r ∧ f 0 = (.d (.sl (List.map TE.row p0))) ∧ f 1 = (.fn g_fn1 p_fn1 q_fn1) ∧ f 7 = (.d (.int .i64 (p0.length : Int))) ∧ f 8 = (.d (.int .i64 v1)) ∧ st' = st ++ []) n (Ghost.refl _) ⟨(0 : Int), hr, (Ad rfl eh), (Ad rfl (em rfl eh)), (em rfl eh), eh, rfl⟩ ?_
 rintro m f st' ⟨v1, hr, h0, h1, h7, h8, rfl⟩
 cases m with
 | zero => cases hr
 | succ m_0 =>
   rw [AR] at hr
   generalize hrec_0 : AR p0 fn1 m_0 = q0 at hr
   rw [BW] at hr
   unfold EF
   refine Al (Af ?_)
   unfold EA
   refine As (e_t h8) (e_t h7) (CM ?_)
   refine Aa (Ae (Al ?_))
   refine AC (e_t eh) hr (fun hr => ?_) (fun hr => ?_)
   rotate_left
   · refine CG ?_
     refine AW ?_
     refine AW ?_
     refine DF ?_
     refine Ae (Al (Af ?_))
     unfold Ej
     refine Ab e_c (Aa (Ae (AI ?_)))
     cases hr
     exact A7 (AG eh AH) (AN AF v_d) (Ay hwf) h
   refine AO (Ae (Al ?_))
   refine AT ?_
   refine Al (Af ?_)
   unfold El
   refine Ab (e_t (em rfl h8)) (Ab (e_t eh) (Aa (Ae (Al (Af ?_)))))
   unfold En
   refine Ab (e_t (Ac rfl (em rfl h1))) (Ab (e_t (Ad rfl h0)) (Ab (e_t (Ac rfl eh)) ?_))
   refine Br (row := TE.row) (AP (e_t (em rfl eh)) Bt) (e_t eh) hr TE.row_eq (fun _ => rfl) (fun v2 hr => ?_)
   refine Dc (e_t eh) (Nat.le_of_ble_eq_true rfl) (by exact rfl) ?_
   obtain ⟨v3, hc_v3, hr⟩ := bind_some hr
   refine Aw7 (e_t (Ad rfl eh)) (Ar (e_t eh) (Bx (Aq f_d (Aq f_d (Aq f_d (Aq f_d (Aq f_d (Aq f_d B3))))))) AM) rfl ?_
   refine H_fn1 v2 hc_v3 ?_
   refine Aa (Ae ?_)
   refine AC (e_t eh) hr (fun hr => ?_) (fun hr => ?_)
   rotate_left
   · refine AO ?_
     refine BB ?_
     refine Ae (Af ?_)
     unfold Ek
     refine As (e_t (Ak rfl (em rfl h8))) e_c (BU ?_)
     refine Ab (e_t eh) (Aa (Ae ?_))
     exact ⟨m_0, _, Nat.lt_succ_self m_0, Ghost.refl _, (IntKind.wrap .i64 (v1 + (1 : Int))), (by rw [hrec_0]; exact hr), (Ak rfl (Ac rfl (em rfl h0))), (Ak rfl (Ac rfl (em rfl h1))), (Ak rfl (Ac rfl (em rfl h7))), eh, rfl⟩
   refine Al (Af ?_)
   unfold Em
   refine Ab (e_t (Ad rfl (Ac rfl eh))) (Ab (e_t eh) (Aa (Ae (AI ?_))))
   refine BH ?_
   refine AA (AA ?_)
   refine BH ?_
   refine AA ?_
   cases hr
   exact A7 (AG eh AH) (AN AF v_d) (Ay hwf) h
def Bq (n : Nat) (p0 : (List TE)) (fn1 : TE → Option Bool) : Option Bool :=
 ((BO n p0 fn1).bind fun v1 => some (decide ((0 : Int) ≤ v1)))
set_option maxRecDepth 100000 in
set_option maxHeartbeats 4000000 in
theorem Ex (n : Nat) (p0 : (List TE)) (fn1 : TE → Option Bool) {g_fn1 : FuncId} {p_fn1 q_fn1 : List PV} (H_fn1 : ∀ (a0 : TE) {r : Bool}, fn1 a0 = some r → ∀ {st : List Content} {K : PV → List Content → Prop}, K (.d (.bool r)) st → Av PR g_fn1 (p_fn1 ++ [(.agg [(.d (.int .i64 a0.Op)), (.d (.int .i64 a0.N)), (.d (.str a0.S)), (.d (.str a0.Name)), (.d (.str a0.Src)), (.d (.sl (List.map TE.row a0.Args)))])] ++ q_fn1) st K) (B_fn1 : ∀ n, (AK.belowL n p_fn1 && AK.belowL n q_fn1) = true) {r : Bool} (hr : Bq n p0 fn1 = some r) {K : PV → List Content → Prop} (h : K (.d (.bool r)) st) : Av PR B4 [(.d (.sl (List.map TE.row p0))), (.fn g_fn1 p_fn1 q_fn1)] st K := by
 refine Av.of Hz (Nat.le_of_ble_eq_true rfl) fun hwf => ?_
 rw [Ed]
 refine AQ ?_
 unfold Ey
 rw [Bq] at hr
 refine Al (Af ?_)
 unfold DC
 refine Ab e_c (Aa (Ae (Al (Af ?_))))
 unfold DE
 refine Ab (e_t (em rfl eh)) (Ab (e_t (Ac rfl (em rfl eh))) ?_)
 obtain ⟨v1, hc_v1, hr⟩ := bind_some hr
 refine AJ (Ar (e_t (em rfl eh)) AF (Ar (e_t eh) K7 AM)) ?_
 refine Im n p0 fn1 H_fn1 B_fn1 hc_v1 ?_
 refine As (e_t eh) e_c (Ei ?_)
 refine Ab (e_t eh) (Aa (Ae (AI ?_)))
 cases hr
 exact A7 (AG eh AH) (AN AF v_d) (Ay hwf) h
def LO (p0 : Int) (v3 : Bool) : (Int × Bool) :=
 (bif v3 then ((1 : Int), false) else (bif (decide (p0 = (21 : Int))) then ((1 : Int), true) else (bif (decide ((22 : Int) ≤ p0)) then (bif (decide (p0 ≤ (24 : Int))) then ((2 : Int), true) else ((-1), false)) else ((-1), false))))
def LW (p0 : Int) (v2 : Bool) : (Int × Bool) :=
 (bif v2 then ((2 : Int), false) else (bif (decide (p0 = (19 : Int))) then (LO p0 true) else (LO p0 (decide (p0 = (20 : Int))))))
def Md (p0 : Int) (v1 : Bool) : (Int × Bool) :=
 (bif v1 then ((0 : Int), false) else (bif (decide ((6 : Int) ≤ p0)) then (LW p0 (decide (p0 ≤ (18 : Int)))) else (LW p0 false)))
def O0 (p0 : Int) : (Int × Bool) :=
 (bif (decide ((1 : Int) ≤ p0)) then (Md p0 (decide (p0 ≤ (5 : Int)))) else (Md p0 false))
set_option maxRecDepth 100000 in
set_option maxHeartbeats 4000000 in
theorem Ap3 (p0 : Int) {r : (Int × Bool)} (hr : O0 p0 = r) {K : PV → List Content → Prop} (h : K (.tup [(.d (.int .i64 r.1)), (.d (.bool r.2))]) st) : Av PR T9 [(.d (.int .i64 p0))] st K := by
 refine Av.of AT8 (Nat.le_of_ble_eq_true rfl) fun hwf => ?_
 rw [B5]
 refine AQ ?_
 unfold AF0
 rw [O0] at hr
 refine Al (Af ?_)
 unfold Ab0
 refine Ab e_c (Ab e_c (Aa (Ae (Al ?_))))
 refine AT ?_
 refine By (fun f st' => ∃ (v1 : Bool), Md p0 v1 = r ∧ f 0 = (.d (.int .i64 p0)) ∧ f 4 = (.d (.bool v1)) ∧ st' = st ++ []) ?_ ?_
 · refine Af ?_
   unfold Zy
   refine Bn ?_
   unfold Te
   refine Ab (e_t (Ac rfl eh)) ?_
   refine As (e_t eh) e_c (Ei ?_)
   refine Ab (e_t eh) ?_
   refine Au eh hr (fun hr => ?_) (fun hr => ?_)
   rotate_left
   · refine Ag eh (Ag (em rfl eh) (Ao (e_t (Ac rfl eh)) e_c (Aa ?_)))
     unfold Pg
     refine Ab (e_t eh) (Aa (Ae ?_))
     exact ⟨false, hr, (Ak rfl (Ac rfl eh)), eh, rfl⟩
   refine Ai eh (Ab (e_t (Ad rfl (Ac rfl eh))) (Ai (em rfl eh) ?_))
   refine As (e_t eh) e_c (JI ?_)
   refine An (e_t (Ac rfl eh)) (e_t eh) (Aa ?_)
   unfold Pg
   refine Ab (e_t eh) (Aa (Ae ?_))
   exact ⟨(decide (p0 ≤ (5 : Int))), hr, (Ak rfl (Ac rfl eh)), eh, rfl⟩
 rintro f st' ⟨v1, hr, h0, h4, rfl⟩
 rw [Md] at hr
 refine AC (e_t h4) hr (fun hr => ?_) (fun hr => ?_)
 · refine Al (Af ?_)
   unfold ZR
   refine Ab e_c (Ab e_c (Aa (Ae (AI ?_))))
   refine BH ?_
   refine AA ?_
   subst hr
   exact A7 (AG (em rfl eh) (AG eh AH)) (HJ (Bu FU (Bu FU HN)) rfl) (Ay hwf) h
 refine By (fun f st' => ∃ (v2 : Bool), LW p0 v2 = r ∧ f 0 = (.d (.int .i64 p0)) ∧ f 11 = (.d (.bool v2)) ∧ st' = st ++ []) ?_ ?_
 · refine Af ?_
   unfold Z9
   refine Bn ?_
   unfold VH
   refine Ab (e_t h0) ?_
   refine As (e_t eh) e_c (Ei ?_)
   refine Ab (e_t eh) ?_
   refine Au eh hr (fun hr => ?_) (fun hr => ?_)
   rotate_left
   · refine Ag eh (Ag (em rfl eh) (Ao (e_t (Ac rfl eh)) e_c (Aa ?_)))
     unfold Pd
     refine Ab (e_t eh) (Aa (Ae ?_))
     exact ⟨false, hr, (Ad rfl (Ad rfl h0)), eh, rfl⟩
   refine Ai eh (Ab (e_t (Ad rfl h0)) (Ai (em rfl eh) ?_))
   refine As (e_t eh) e_c (JI ?_)
   refine An (e_t (Ac rfl eh)) (e_t eh) (Aa ?_)
   unfold Pd
   refine Ab (e_t eh) (Aa (Ae ?_))
   exact ⟨(decide (p0 ≤ (18 : Int))), hr, (Ad rfl (Ad rfl h0)), eh, rfl⟩
 rintro f st' ⟨v2, hr, h0, h11, rfl⟩
 rw [LW] at hr
 refine AC (e_t h11) hr (fun hr => ?_) (fun hr => ?_)
 · refine Al (Af ?_)
   unfold Zv
   refine Ab e_c (Ab e_c (Aa (Ae (AI ?_))))
   refine BH ?_
   refine AA ?_
   subst hr
   exact A7 (AG (em rfl eh) (AG eh AH)) (HJ (Bu FU (Bu FU HN)) rfl) (Ay hwf) h
 refine By (fun f st' => ∃ (v3 : Bool), LO p0 v3 = r ∧ f 0 = (.d (.int .i64 p0)) ∧ f 18 = (.d (.bool v3)) ∧ st' = st ++ []) ?_ ?_
 · refine Af ?_
   unfold Ab5
   refine Bn ?_
   unfold TF
   refine Ab (e_t h0) ?_
   refine As (e_t eh) e_c (BK ?_)
   refine Ab (e_t eh) ?_
   refine Au eh hr (fun hr => ?_) (fun hr => ?_)
   · refine Ag eh (Ag (em rfl eh) (An (e_t (Ac rfl eh)) e_c (Aa ?_)))
     unfold O9
     refine Ab (e_t eh) (Aa (Ae ?_))
     exact ⟨true, hr, (Ad rfl (Ad rfl h0)), eh, rfl⟩
   refine Ai eh (Ab (e_t (Ad rfl h0)) (Ai (em rfl eh) ?_))
   refine As (e_t eh) e_c (BK ?_)
   refine Ao (e_t (Ac rfl eh)) (e_t eh) (Aa ?_)
   unfold O9
   refine Ab (e_t eh) (Aa (Ae ?_))
   exact ⟨(decide (p0 = (20 : Int))), hr, (Ad rfl (Ad rfl h0)), eh, rfl⟩
 rintro f st' ⟨v3, hr, h0, h18, rfl⟩
 rw [LO] at hr
 refine AC (e_t h18) hr (fun hr => ?_) (fun hr => ?_)
 · refine Al (Af ?_)
   unfold ZN
   refine Ab e_c (Ab e_c (Aa (Ae (AI ?_))))
   refine BH ?_
   refine AA ?_
   subst hr
   exact A7 (AG (em rfl eh) (AG eh AH)) (HJ (Bu FU (Bu FU HN)) rfl) (Ay hwf) h
 refine Al (Af ?_)
 unfold Zm
 refine Ab (e_t h0) ?_
 refine As (e_t eh) e_c (BK ?_)
 refine Ab (e_t eh) (Aa (Ae ?_))
 refine AC (e_t eh) hr (fun hr => ?_) (fun hr => ?_)
 · refine Al (Af ?_)
   unfold ZD
   refine Ab e_c (Ab e_c (Aa (Ae (AI ?_))))
   refine BH ?_
   refine AA ?_
   subst hr
   exact A7 (AG (em rfl eh) (AG eh AH)) (HJ (Bu FU (Bu FU HN)) rfl) (Ay hwf) h
 refine Al (Af ?_)
 unfold YS
 refine Bn ?_
 unfold Vr
 refine Ab (e_t (Ac rfl (em rfl h0))) ?_
 refine As (e_t eh) e_c (Ei ?_)
 refine Ab (e_t eh) ?_
 refine Au eh hr (fun hr => ?_) (fun hr => ?_)
 rotate_left
 · refine Ag eh (Ag (em rfl eh) (Ao (e_t (Ac rfl eh)) e_c (Aa ?_)))
   unfold OZ
   refine Ab (e_t eh) (Aa (Ae ?_))
   refine EZ (e_t eh) ?_
   refine AO ?_
   refine BB ?_
   refine Ae (Al (Af ?_))
   unfold Ru
   refine Ab e_c (Ab e_c (Aa (Ae (AI ?_))))
   subst hr
   exact A7 (AG (em rfl eh) (AG eh AH)) (HJ (Bu FU (Bu FU HN)) rfl) (Ay hwf) h
 refine Ai eh (Ab (e_t (Ad rfl (Ac rfl (em rfl h0)))) (Ai (em rfl eh) ?_))
 refine As (e_t eh) e_c (JI ?_)
 refine An (e_t (Ac rfl eh)) (e_t eh) (Aa ?_)
 unfold OZ
 refine Ab (e_t eh) (Aa (Ae ?_))
 refine AC (e_t eh) hr (fun hr => ?_) (fun hr => ?_)
 · refine Al (Af ?_)
   unfold WS
   refine Ab e_c (Ab e_c (Aa (Ae (AI ?_))))
   refine BH ?_
   refine AA ?_
   subst hr
   exact A7 (AG (em rfl eh) (AG eh AH)) (HJ (Bu FU (Bu FU HN)) rfl) (Ay hwf) h
 refine AO ?_
 refine BB ?_
 refine Ae (Al (Af ?_))
 unfold Ru
 refine Ab e_c (Ab e_c (Aa (Ae (AI ?_))))
 subst hr
 exact A7 (AG (em rfl eh) (AG eh AH)) (HJ (Bu FU (Bu FU HN)) rfl) (Ay hwf) h
end Go.Ax
