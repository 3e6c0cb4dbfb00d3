import Derived.Test.YtojkpenjeglipaaPYT
import Derived.Test.YtojkpenjeglipaaPCVX
import Derived.Test.YtojkpenjeglipaaPCPrim
set_option linter.unusedVariables false
set_option linter.unusedSimpArgs false
namespace Go.Ax
attribute [local irreducible] BQ EX FK Bg CQ FI B8 Le Ii upd ev u0 Dw frz A9 EK mmD bnd B2 FD Dq CR G3 HS Hg cutV JT Cy
variable {st : List Content}
def BY (p0 : (List TS)) (fn1 : TS → Option Bool) (q0 : Int → Option Int) (v1 : Int) : Option Int :=
 (bif (decide (v1 < (p0.length : Int))) then ((Dd p0 v1).bind fun v2 => ((fn1 v2).bind fun v3 => (bif v3 then some v1 else q0 (IntKind.wrap .i64 (v1 + (1 : Int)))))) else some (-1))
def AS (p0 : (List TS)) (fn1 : TS → Option Bool) : Nat → Int → Option Int
 | 0, _ => none
 | m + 1, v1 => BY p0 fn1 (AS p0 fn1 m) v1
def BP (n : Nat) (p0 : (List TS)) (fn1 : TS → Option Bool) : Option Int :=
 (AS p0 fn1 n (0 : Int))
set_option maxRecDepth 100000 in
set_option maxHeartbeats 4000000 in
theorem Iq (n : Nat) (p0 : (List TS)) (fn1 : TS → Option Bool) {g_fn1 : FuncId} {p_fn1 q_fn1 : List PV} (H_fn1 : ∀ (a0 : TS) {r : Bool}, fn1 a0 = some r → ∀ {st : List Content} {K : PV → List Content → Prop}, K (.d (.bool r)) st → Av PR g_fn1 (p_fn1 ++ [(.agg [(.d (.int .i64 a0.Op)), (.d (.str a0.Name)), (.d (.str a0.Src)), (.d (.int .i64 a0.N)), (.d (.sl (List.map rS a0.Cols))), (.d (.sl (List.map TE.row a0.Exprs))), (.d (.sl (List.map TS.row a0.Body))), (.d (.sl (List.map TS.row a0.Else)))])] ++ q_fn1) st K) (B_fn1 : ∀ n, (AK.belowL n p_fn1 && AK.belowL n q_fn1) = true) {r : Int} (hr : BP n p0 fn1 = some r) {K : PV → List Content → Prop} (h : K (.d (.int .i64 r)) st) : Av PR Df [(.d (.sl (List.map TS.row p0))), (.fn g_fn1 p_fn1 q_fn1)] st K := by
 refine Av.of Ip (Nat.le_of_ble_eq_true rfl) fun hwf => ?_
 rw [Ed]
 refine AQ ?_
 unfold EW
 rw [BP] at hr
 refine Al (Af ?_)
 unfold Er
 refine Ab e_c (Aa (Ae (Al (Al (Af ?_)))))
 unfold Eo
 refine Ab (e_t (em rfl eh)) ?_
 refine Bh (row := TS.row) (AP (e_t eh) Bt) ?_
 refine Ab e_c (Aa (Ae ?_))
 refine AT ?_
 refine BX (fun m f st' => ∃ (v1 : Int), AS p0 fn1 m v1 = some r ∧ f 0 = (.d (.sl (List.map TS.row p0))) ∧ f 1 = (.fn g_fn1 p_fn1 q_fn1) ∧ f 7 = (.d (.int .i64 (p0.length : Int))) ∧ f 8 = (.d (.int .i64 v1)) ∧ st' = st ++ []) n (Ghost.refl _) ⟨(0 : Int), hr, (Ad rfl eh), (Ad rfl (em rfl eh)), (em rfl eh), eh, rfl⟩ ?_
 rintro m f st' ⟨v1, hr, h0, h1, h7, h8, rfl⟩
 cases m with
 | zero => cases hr
 | succ m_0 =>
   rw [AS] at hr
   generalize hrec_0 : AS p0 fn1 m_0 = q0 at hr
   rw [BY] at hr
   unfold Eu
   refine Al (Af ?_)
   unfold Ep
   refine As (e_t h8) (e_t h7) (CM ?_)
   refine Aa (Ae (Al ?_))
   refine AC (e_t eh) hr (fun hr => ?_) (fun hr => ?_)
   rotate_left
   · refine CG ?_
     refine AW ?_
     refine AW ?_
     refine DF ?_
     refine Ae (Al (Af ?_))
     unfold Es
     refine Ab e_c (Aa (Ae (AI ?_)))
     cases hr
     exact A7 (AG eh AH) (AN AF v_d) (Ay hwf) h
   refine AO (Ae (Al ?_))
   refine AT ?_
   refine Al (Af ?_)
   unfold EB
   refine Ab (e_t (em rfl h8)) (Ab (e_t eh) (Aa (Ae (Al (Af ?_)))))
   unfold Ew
   refine Ab (e_t (Ac rfl (em rfl h1))) (Ab (e_t (Ad rfl h0)) (Ab (e_t (Ac rfl eh)) ?_))
   refine Br (row := TS.row) (AP (e_t (em rfl eh)) Bt) (e_t eh) hr TS.row_eq (fun _ => rfl) (fun v2 hr => ?_)
   refine Dc (e_t eh) (Nat.le_of_ble_eq_true rfl) (by exact rfl) ?_
   obtain ⟨v3, hc_v3, hr⟩ := bind_some hr
   refine Aw7 (e_t (Ad rfl eh)) (Ar (e_t eh) (Bx (Aq f_d (Aq f_d (Aq f_d (Aq f_d (Aq f_d (Aq f_d (Aq f_d (Aq f_d B3))))))))) AM) rfl ?_
   refine H_fn1 v2 hc_v3 ?_
   refine Aa (Ae ?_)
   refine AC (e_t eh) hr (fun hr => ?_) (fun hr => ?_)
   rotate_left
   · refine AO ?_
     refine BB ?_
     refine Ae (Af ?_)
     unfold EE
     refine As (e_t (Ak rfl (em rfl h8))) e_c (BU ?_)
     refine Ab (e_t eh) (Aa (Ae ?_))
     exact ⟨m_0, _, Nat.lt_succ_self m_0, Ghost.refl _, (IntKind.wrap .i64 (v1 + (1 : Int))), (by rw [hrec_0]; exact hr), (Ak rfl (Ac rfl (em rfl h0))), (Ak rfl (Ac rfl (em rfl h1))), (Ak rfl (Ac rfl (em rfl h7))), eh, rfl⟩
   refine Al (Af ?_)
   unfold EG
   refine Ab (e_t (Ad rfl (Ac rfl eh))) (Ab (e_t eh) (Aa (Ae (AI ?_))))
   refine BH ?_
   refine AA (AA ?_)
   refine BH ?_
   refine AA ?_
   cases hr
   exact A7 (AG eh AH) (AN AF v_d) (Ay hwf) h
def BD (n : Nat) (p0 : (List TS)) (fn1 : TS → Option Bool) : Option Bool :=
 ((BP n p0 fn1).bind fun v1 => some (decide ((0 : Int) ≤ v1)))
set_option maxRecDepth 100000 in
set_option maxHeartbeats 4000000 in
theorem Hx (n : Nat) (p0 : (List TS)) (fn1 : TS → Option Bool) {g_fn1 : FuncId} {p_fn1 q_fn1 : List PV} (H_fn1 : ∀ (a0 : TS) {r : Bool}, fn1 a0 = some r → ∀ {st : List Content} {K : PV → List Content → Prop}, K (.d (.bool r)) st → Av PR g_fn1 (p_fn1 ++ [(.agg [(.d (.int .i64 a0.Op)), (.d (.str a0.Name)), (.d (.str a0.Src)), (.d (.int .i64 a0.N)), (.d (.sl (List.map rS a0.Cols))), (.d (.sl (List.map TE.row a0.Exprs))), (.d (.sl (List.map TS.row a0.Body))), (.d (.sl (List.map TS.row a0.Else)))])] ++ q_fn1) st K) (B_fn1 : ∀ n, (AK.belowL n p_fn1 && AK.belowL n q_fn1) = true) {r : Bool} (hr : BD n p0 fn1 = some r) {K : PV → List Content → Prop} (h : K (.d (.bool r)) st) : Av PR CV [(.d (.sl (List.map TS.row p0))), (.fn g_fn1 p_fn1 q_fn1)] st K := by
 refine Av.of HA (Nat.le_of_ble_eq_true rfl) fun hwf => ?_
 rw [Ed]
 refine AQ ?_
 unfold Et
 rw [BD] at hr
 refine Al (Af ?_)
 unfold DA
 refine Ab e_c (Aa (Ae (Al (Af ?_))))
 unfold DG
 refine Ab (e_t (em rfl eh)) (Ab (e_t (Ac rfl (em rfl eh))) ?_)
 obtain ⟨v1, hc_v1, hr⟩ := bind_some hr
 refine AJ (Ar (e_t (em rfl eh)) AF (Ar (e_t eh) K7 AM)) ?_
 refine Iq n p0 fn1 H_fn1 B_fn1 hc_v1 ?_
 refine As (e_t eh) e_c (Ei ?_)
 refine Ab (e_t eh) (Aa (Ae (AI ?_)))
 cases hr
 exact A7 (AG eh AH) (AN AF v_d) (Ay hwf) h
def RH (p0 : Bool) (p1 : ByteArray) : (List ByteArray) :=
 (bif (!p0) then [] else [p1])
set_option maxRecDepth 100000 in
set_option maxHeartbeats 4000000 in
theorem AL8 (p0 : Bool) (p1 : ByteArray) {r : (List ByteArray)} (hr : RH p0 p1 = r) {K : PV → List Content → Prop} (h : K (.d (.sl (List.map rS r))) st) : Av PR Ap2 [(.d (.bool p0)), (.d (.str p1))] st K := by
 refine Av.of AX7 (Nat.le_of_ble_eq_true rfl) fun hwf => ?_
 rw [Ed]
 refine AQ ?_
 unfold AM6
 rw [RH] at hr
 refine Al (Af ?_)
 unfold Ai6
 refine Ab e_c (Aa (Ae (Al (Al (Af ?_)))))
 unfold Ak6
 refine Ab (e_t (em rfl eh)) (C2 (e_t eh) (Aa (Ae ?_)))
 refine AC (e_t eh) hr (fun hr => ?_) (fun hr => ?_)
 · refine Al (Af ?_)
   unfold Ak9
   refine Ab e_c (Aa (Ae (AI (AA ?_))))
   subst hr
   exact A7 (AG eh AH) (AN K0 v_d) (Ay hwf) h
 refine AO (Ae (Al (Af ?_)))
 unfold Al0
 refine Ab (e_t (Ad rfl eh)) ?_
 refine Db (rows := List.map rS [p1]) ((AE (e_t eh) A0 (Aw f_d AL) rfl Eg)) ?_
 refine Ab (e_t eh) (Aa (Ae (AI ?_)))
 subst hr
 exact A7 (AG eh AH) (AN K0 v_d) (Ay hwf) h
end Go.Ax
