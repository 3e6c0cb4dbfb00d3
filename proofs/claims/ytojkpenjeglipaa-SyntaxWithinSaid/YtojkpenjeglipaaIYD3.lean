import Derived.Test.YtojkpenjeglipaaIYT
import Derived.Test.YtojkpenjeglipaaICVX
import Derived.Test.YtojkpenjeglipaaICPrim
set_option linter.unusedVariables false
set_option linter.unusedSimpArgs false
namespace Go.Ax
attribute [local irreducible] BL ER FD Bf CF Fz B6 KZ HX upd ev u0 Dt frz A6 EB mmD bnd BV Ft Do CO GU Ht G2 cutV I1 Cv
variable {st : List Content}
def BU (p0 : (List TS)) (fn1 : TS → Option Bool) (q0 : Int → Option Int) (v1 : Int) : Option Int :=
 (bif (decide (v1 < (p0.length : Int))) then ((Dh p0 v1).bind fun v2 => ((fn1 v2).bind fun v3 => (bif v3 then some v1 else q0 (IntKind.wrap .i64 (v1 + (1 : Int)))))) else some (-1))
def AT (p0 : (List TS)) (fn1 : TS → Option Bool) : Nat → Int → Option Int
 | 0, _ => none
 | m + 1, v1 => BU p0 fn1 (AT p0 fn1 m) v1
def BK (n : Nat) (p0 : (List TS)) (fn1 : TS → Option Bool) : Option Int :=
 (AT p0 fn1 n (0 : Int))
set_option maxRecDepth 100000 in
set_option maxHeartbeats 4000000 in
theorem H0 (n : Nat) (p0 : (List TS)) (fn1 : TS → Option Bool) {g_fn1 : FuncId} {p_fn1 q_fn1 : List PV} (H_fn1 : ∀ (a0 : TS) {r : Bool}, fn1 a0 = some r → ∀ {st : List Content} {K : PV → List Content → Prop}, K (.d (.bool r)) st → Aw PR g_fn1 (p_fn1 ++ [(.agg [(.d (.int .i64 a0.Op)), (.d (.str a0.Name)), (.d (.str a0.Src)), (.d (.int .i64 a0.N)), (.d (.sl (List.map rS a0.Cols))), (.d (.sl (List.map TE.row a0.Exprs))), (.d (.sl (List.map TS.row a0.Body))), (.d (.sl (List.map TS.row a0.Else)))])] ++ q_fn1) st K) (B_fn1 : ∀ n, (AJ.belowL n p_fn1 && AJ.belowL n q_fn1) = true) {r : Int} (hr : BK n p0 fn1 = some r) {K : PV → List Content → Prop} (h : K (.d (.int .i64 r)) st) : Aw PR Dc [(.d (.sl (List.map TS.row p0))), (.fn g_fn1 p_fn1 q_fn1)] st K := by
 refine Aw.of H3 (Nat.le_of_ble_eq_true rfl) fun hwf => ?_
 rw [DX]
 refine AQ ?_
 unfold EN
 rw [BK] at hr
 refine Al (Af ?_)
 unfold Eg
 refine Ab e_c (Aa (Ae (Al (Al (Af ?_)))))
 unfold Ed
 refine Ab (e_t (em rfl eh)) ?_
 refine Bh (row := TS.row) (AL (e_t eh) Bq) ?_
 refine Ab e_c (Aa (Ae ?_))
 refine AX ?_
 refine Ca (fun m f st' => ∃ (v1 : Int), AT p0 fn1 m v1 = some r ∧ f 0 = (.d (.sl (List.map TS.row p0))) ∧ f 1 = (.fn g_fn1 p_fn1 q_fn1) ∧ f 7 = (.d (.int .i64 (p0.length : Int))) ∧ f 8 = (.d (.int .i64 v1)) ∧ st' = st ++ []) n (Ghost.refl _) ⟨(0 : Int), hr, (Ad rfl eh), (Ad rfl (em rfl eh)), (em rfl eh), eh, rfl⟩ ?_
 rintro m f st' ⟨v1, hr, h0, h1, h7, h8, rfl⟩
 cases m with
 | zero => cases hr
 | succ m_0 =>
   rw [AT] at hr
   generalize hrec_0 : AT p0 fn1 m_0 = q0 at hr
   rw [BU] at hr
   unfold Em
   refine Al (Af ?_)
   unfold Ew
   refine Ar (e_t h8) (e_t h7) (CL ?_)
   refine Aa (Ae (Al ?_))
   refine AC (e_t eh) hr (fun hr => ?_) (fun hr => ?_)
   rotate_left
   · refine CP ?_
     refine A0 ?_
     refine A0 ?_
     refine Ea ?_
     refine Ae (Al (Af ?_))
     unfold Ej
     refine Ab e_c (Aa (Ae (AI ?_)))
     cases hr
     exact A7 (AF eh AH) (AM AG v_d) (Av hwf) h
   refine AN (Ae (Al ?_))
   refine AX ?_
   refine Al (Af ?_)
   unfold Ef
   refine Ab (e_t (em rfl h8)) (Ab (e_t eh) (Aa (Ae (Al (Af ?_)))))
   unfold EA
   refine Ab (e_t (Ac rfl (em rfl h1))) (Ab (e_t (Ad rfl h0)) (Ab (e_t (Ac rfl eh)) ?_))
   refine Bt (row := TS.row) (AL (e_t (em rfl eh)) Bq) (e_t eh) hr TS.row_eq (fun _ => rfl) (fun v2 hr => ?_)
   refine DH (e_t eh) (Nat.le_of_ble_eq_true rfl) (by exact rfl) ?_
   obtain ⟨v3, hc_v3, hr⟩ := bind_some hr
   refine Ao8 (e_t (Ad rfl eh)) (Ay (e_t eh) (BP (Aq f_d (Aq f_d (Aq f_d (Aq f_d (Aq f_d (Aq f_d (Aq f_d (Aq f_d Cw))))))))) AR) rfl ?_
   refine H_fn1 v2 hc_v3 ?_
   refine Aa (Ae ?_)
   refine AC (e_t eh) hr (fun hr => ?_) (fun hr => ?_)
   rotate_left
   · refine AN ?_
     refine BA ?_
     refine Ae (Af ?_)
     unfold Et
     refine Ar (e_t (Ak rfl (em rfl h8))) e_c (BX ?_)
     refine Ab (e_t eh) (Aa (Ae ?_))
     exact ⟨m_0, _, Nat.lt_succ_self m_0, Ghost.refl _, (IntKind.wrap .i64 (v1 + (1 : Int))), (by rw [hrec_0]; exact hr), (Ak rfl (Ac rfl (em rfl h0))), (Ak rfl (Ac rfl (em rfl h1))), (Ak rfl (Ac rfl (em rfl h7))), eh, rfl⟩
   refine Al (Af ?_)
   unfold Es
   refine Ab (e_t (Ad rfl (Ac rfl eh))) (Ab (e_t eh) (Aa (Ae (AI ?_))))
   refine BE ?_
   refine AA (AA ?_)
   refine BE ?_
   refine AA ?_
   cases hr
   exact A7 (AF eh AH) (AM AG v_d) (Av hwf) h
def Bw (n : Nat) (p0 : (List TS)) (fn1 : TS → Option Bool) : Option Bool :=
 ((BK n p0 fn1).bind fun v1 => some (decide ((0 : Int) ≤ v1)))
set_option maxRecDepth 100000 in
set_option maxHeartbeats 4000000 in
theorem Hm (n : Nat) (p0 : (List TS)) (fn1 : TS → Option Bool) {g_fn1 : FuncId} {p_fn1 q_fn1 : List PV} (H_fn1 : ∀ (a0 : TS) {r : Bool}, fn1 a0 = some r → ∀ {st : List Content} {K : PV → List Content → Prop}, K (.d (.bool r)) st → Aw PR g_fn1 (p_fn1 ++ [(.agg [(.d (.int .i64 a0.Op)), (.d (.str a0.Name)), (.d (.str a0.Src)), (.d (.int .i64 a0.N)), (.d (.sl (List.map rS a0.Cols))), (.d (.sl (List.map TE.row a0.Exprs))), (.d (.sl (List.map TS.row a0.Body))), (.d (.sl (List.map TS.row a0.Else)))])] ++ q_fn1) st K) (B_fn1 : ∀ n, (AJ.belowL n p_fn1 && AJ.belowL n q_fn1) = true) {r : Bool} (hr : Bw n p0 fn1 = some r) {K : PV → List Content → Prop} (h : K (.d (.bool r)) st) : Aw PR CV [(.d (.sl (List.map TS.row p0))), (.fn g_fn1 p_fn1 q_fn1)] st K := by
 refine Aw.of Hn (Nat.le_of_ble_eq_true rfl) fun hwf => ?_
 rw [DX]
 refine AQ ?_
 unfold En
 rw [Bw] at hr
 refine Al (Af ?_)
 unfold Dy
 refine Ab e_c (Aa (Ae (Al (Af ?_))))
 unfold Dw
 refine Ab (e_t (em rfl eh)) (Ab (e_t (Ac rfl (em rfl eh))) ?_)
 obtain ⟨v1, hc_v1, hr⟩ := bind_some hr
 refine AP (Ay (e_t (em rfl eh)) AG (Ay (e_t eh) LD AR)) ?_
 refine H0 n p0 fn1 H_fn1 B_fn1 hc_v1 ?_
 refine Ar (e_t eh) e_c (ET ?_)
 refine Ab (e_t eh) (Aa (Ae (AI ?_)))
 cases hr
 exact A7 (AF eh AH) (AM AG v_d) (Av hwf) h
def Qz (p0 : Bool) (p1 : ByteArray) : (List ByteArray) :=
 (bif (!p0) then [] else [p1])
set_option maxRecDepth 100000 in
set_option maxHeartbeats 4000000 in
theorem AF0 (p0 : Bool) (p1 : ByteArray) {r : (List ByteArray)} (hr : Qz p0 p1 = r) {K : PV → List Content → Prop} (h : K (.d (.sl (List.map rS r))) st) : Aw PR Ag2 [(.d (.bool p0)), (.d (.str p1))] st K := by
 refine Aw.of AP2 (Nat.le_of_ble_eq_true rfl) fun hwf => ?_
 rw [DX]
 refine AQ ?_
 unfold AI1
 rw [Qz] at hr
 refine Al (Af ?_)
 unfold Ac3
 refine Ab e_c (Aa (Ae (Al (Al (Af ?_)))))
 unfold Ad0
 refine Ab (e_t (em rfl eh)) (CS (e_t eh) (Aa (Ae ?_)))
 refine AC (e_t eh) hr (fun hr => ?_) (fun hr => ?_)
 · refine Al (Af ?_)
   unfold Ac2
   refine Ab e_c (Aa (Ae (AI (AA ?_))))
   subst hr
   exact A7 (AF eh AH) (AM RO v_d) (Av hwf) h
 refine AN (Ae (Al (Af ?_)))
 unfold Ae4
 refine Ab (e_t (Ad rfl eh)) ?_
 refine CX (rows := List.map rS [p1]) ((AE (e_t eh) AZ (As f_d AK) rfl DV)) ?_
 refine Ab (e_t eh) (Aa (Ae (AI ?_)))
 subst hr
 exact A7 (AF eh AH) (AM RO v_d) (Av hwf) h
end Go.Ax
