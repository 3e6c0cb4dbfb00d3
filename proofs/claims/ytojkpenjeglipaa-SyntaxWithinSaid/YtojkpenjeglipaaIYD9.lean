import Derived.Test.YtojkpenjeglipaaIYT
import Derived.Test.YtojkpenjeglipaaICVX
import Derived.Test.YtojkpenjeglipaaICPrim
import Derived.Test.YtojkpenjeglipaaIYD7
import Derived.Test.YtojkpenjeglipaaIYD8
set_option linter.unusedVariables false
set_option linter.unusedSimpArgs false
namespace Go.Ax
attribute [local irreducible] BL ER FD Bf CF Fz B6 KZ HX upd ev u0 Dt frz A6 EB mmD bnd BV Ft Do CO GU Ht G2 cutV I1 Cv
variable {st : List Content}
def HT (s_Suses_stmt : (List ByteArray) → (List ByteArray) → (List ByteArray) → TS → Option ((List ByteArray) × (List ByteArray) × (List ByteArray))) (v19 : (List TS)) (q0 : (List ByteArray) → (List ByteArray) → (List ByteArray) → Int → Option ((List ByteArray) × (List ByteArray) × (List ByteArray))) (v20 : (List ByteArray)) (v21 : (List ByteArray)) (v22 : (List ByteArray)) (v23 : Int) : Option ((List ByteArray) × (List ByteArray) × (List ByteArray)) :=
 (bif (decide (v23 < (v19.length : Int))) then ((Dh v19 v23).bind fun v24 => ((s_Suses_stmt v20 v21 v22 v24).bind fun v25 => q0 v25.1 v25.2.1 v25.2.2 (IntKind.wrap .i64 (v23 + (1 : Int))))) else some (v20, v21, v22))
def C6 (s_Suses_stmt : (List ByteArray) → (List ByteArray) → (List ByteArray) → TS → Option ((List ByteArray) × (List ByteArray) × (List ByteArray))) (v19 : (List TS)) : Nat → (List ByteArray) → (List ByteArray) → (List ByteArray) → Int → Option ((List ByteArray) × (List ByteArray) × (List ByteArray))
 | 0, _, _, _, _ => none
 | m + 1, v20, v21, v22, v23 => HT s_Suses_stmt v19 (C6 s_Suses_stmt v19 m) v20 v21 v22 v23
def EJ (p3 : TS) (s_Suses_stmt : (List ByteArray) → (List ByteArray) → (List ByteArray) → TS → Option ((List ByteArray) × (List ByteArray) × (List ByteArray))) (n : Nat) (v11 : (List ByteArray)) (v12 : (List ByteArray)) (v17 : (List ByteArray)) : Option ((List ByteArray) × (List ByteArray) × (List ByteArray)) :=
 ((XU 144 p3.Body).bind fun v18 => ((Gq 144 v18 p3.Else).bind fun v19 => (C6 s_Suses_stmt v19 n v17 v11 v12 (0 : Int))))
def HM (p3 : TS) (s_Suses_stmt : (List ByteArray) → (List ByteArray) → (List ByteArray) → TS → Option ((List ByteArray) × (List ByteArray) × (List ByteArray))) (n : Nat) (v11 : (List ByteArray)) (v12 : (List ByteArray)) (q1 : (List ByteArray) → Int → Option ((List ByteArray) × (List ByteArray) × (List ByteArray))) (v13 : (List ByteArray)) (v14 : Int) : Option ((List ByteArray) × (List ByteArray) × (List ByteArray)) :=
 (bif (decide (v14 < (p3.Exprs.length : Int))) then ((Dh p3.Exprs v14).bind fun v15 => ((BQ n v13 v11 v12 v15).bind fun v16 => q1 v16 (IntKind.wrap .i64 (v14 + (1 : Int))))) else (EJ p3 s_Suses_stmt n v11 v12 v13))
def C5 (p3 : TS) (s_Suses_stmt : (List ByteArray) → (List ByteArray) → (List ByteArray) → TS → Option ((List ByteArray) × (List ByteArray) × (List ByteArray))) (n : Nat) (v11 : (List ByteArray)) (v12 : (List ByteArray)) : Nat → (List ByteArray) → Int → Option ((List ByteArray) × (List ByteArray) × (List ByteArray))
 | 0, _, _ => none
 | m + 1, v13, v14 => HM p3 s_Suses_stmt n v11 v12 (C5 p3 s_Suses_stmt n v11 v12 m) v13 v14
def d_Suses_stmt_j0 (p3 : TS) (s_Suses_stmt : (List ByteArray) → (List ByteArray) → (List ByteArray) → TS → Option ((List ByteArray) × (List ByteArray) × (List ByteArray))) (n : Nat) (v10 : (List ByteArray)) (v11 : (List ByteArray)) (v12 : (List ByteArray)) : Option ((List ByteArray) × (List ByteArray) × (List ByteArray)) :=
 (C5 p3 s_Suses_stmt n v11 v12 n v10 (0 : Int))
def G4 (p0 : (List ByteArray)) (p1 : (List ByteArray)) (p2 : (List ByteArray)) (p3 : TS) (s_Suses_stmt : (List ByteArray) → (List ByteArray) → (List ByteArray) → TS → Option ((List ByteArray) × (List ByteArray) × (List ByteArray))) (n : Nat) (v4 : Bool) : Option ((List ByteArray) × (List ByteArray) × (List ByteArray)) :=
 (bif v4 then ((Xl p0 p3.Src).bind fun v5 => ((Xl p1 p3.Src).bind fun v6 => (d_Suses_stmt_j0 p3 s_Suses_stmt n v5 v6 p2))) else (bif (decide (p3.Op = (6 : Int))) then ((Xl p0 p3.Src).bind fun v7 => (d_Suses_stmt_j0 p3 s_Suses_stmt n v7 p1 p2)) else (bif (decide (p3.Op = (3 : Int))) then ((Xl p1 p3.Src).bind fun v8 => (d_Suses_stmt_j0 p3 s_Suses_stmt n p0 v8 p2)) else (bif (decide (p3.Op = (8 : Int))) then ((Xl p2 p3.Src).bind fun v9 => (d_Suses_stmt_j0 p3 s_Suses_stmt n p0 p1 v9)) else (d_Suses_stmt_j0 p3 s_Suses_stmt n p0 p1 p2)))))
def Hv (s_Suses_stmt : (List ByteArray) → (List ByteArray) → (List ByteArray) → TS → Option ((List ByteArray) × (List ByteArray) × (List ByteArray))) (n : Nat) (p0 : (List ByteArray)) (p1 : (List ByteArray)) (p2 : (List ByteArray)) (p3 : TS) : Option ((List ByteArray) × (List ByteArray) × (List ByteArray)) :=
 (bif (decide (p3.Op = (4 : Int))) then (G4 p0 p1 p2 p3 s_Suses_stmt n (decide (p3.Op = (4 : Int)))) else (G4 p0 p1 p2 p3 s_Suses_stmt n (decide (p3.Op = (5 : Int)))))
set_option maxRecDepth 100000 in
set_option maxHeartbeats 4000000 in
theorem Aa7 (s_Suses_stmt : (List ByteArray) → (List ByteArray) → (List ByteArray) → TS → Option ((List ByteArray) × (List ByteArray) × (List ByteArray))) (n : Nat) (p0 : (List ByteArray)) (p1 : (List ByteArray)) (p2 : (List ByteArray)) (p3 : TS) (H_s_Suses_stmt : ∀ (p0 : (List ByteArray)) (p1 : (List ByteArray)) (p2 : (List ByteArray)) (p3 : TS) {r : ((List ByteArray) × (List ByteArray) × (List ByteArray))}, s_Suses_stmt p0 p1 p2 p3 = some r → ∀ {st : List Content} {x0 : Nat} {x1 : Nat} {x2 : Nat} (hx_x0 : st[x0]? = some (.map AD AU p0)) (hx_x1 : st[x1]? = some (.map AD AU p1)) (hx_x2 : st[x2]? = some (.map AD AU p2)) (hne_x0_x1 : (x0 == x1) = false) (hne_x0_x2 : (x0 == x2) = false) (hne_x1_x2 : (x1 == x2) = false) {st' : List Content} (hst : (List.set (List.set (List.set st x0 (.map AD AU r.1)) x1 (.map AD AU r.2.1)) x2 (.map AD AU r.2.2)) = st') {K : PV → List Content → Prop} (h : K (.tup []) st'), Aw PR GR [(.agg [(.map x0), (.map x1), (.map x2)]), (.agg [(.d (.int .i64 p3.Op)), (.d (.str p3.Name)), (.d (.str p3.Src)), (.d (.int .i64 p3.N)), (.d (.sl (List.map rS p3.Cols))), (.d (.sl (List.map TE.row p3.Exprs))), (.d (.sl (List.map TS.row p3.Body))), (.d (.sl (List.map TS.row p3.Else)))])] st K) {r : ((List ByteArray) × (List ByteArray) × (List ByteArray))} (hr : Hv s_Suses_stmt n p0 p1 p2 p3 = some r) {x0 : Nat} {x1 : Nat} {x2 : Nat} (hx_x0 : st[x0]? = some (.map AD AU p0)) (hx_x1 : st[x1]? = some (.map AD AU p1)) (hx_x2 : st[x2]? = some (.map AD AU p2)) (hne_x0_x1 : (x0 == x1) = false) (hne_x0_x2 : (x0 == x2) = false) (hne_x1_x2 : (x1 == x2) = false) {st' : List Content} (hst : (List.set (List.set (List.set st x0 (.map AD AU r.1)) x1 (.map AD AU r.2.1)) x2 (.map AD AU r.2.2)) = st') {K : PV → List Content → Prop} (h : K (.tup []) st') : Aw PR GR [(.agg [(.map x0), (.map x1), (.map x2)]), (.agg [(.d (.int .i64 p3.Op)), (.d (.str p3.Name)), (.d (.str p3.Src)), (.d (.int .i64 p3.N)), (.d (.sl (List.map rS p3.Cols))), (.d (.sl (List.map TE.row p3.Exprs))), (.d (.sl (List.map TS.row p3.Body))), (.d (.sl (List.map TS.row p3.Else)))])] st K := by
 subst hst
 refine Aw.of Ah5 (Nat.le_of_ble_eq_true rfl) fun hwf => ?_
 rw [DX]
 refine AQ ?_
 unfold Ub
 rw [Hv] at hr
 refine Al (Af ?_)
 unfold Ps
 refine Gw (k := 0) rfl rfl (e_t eh) Bg (by exact rfl) ?_
 refine Gw (k := 1) rfl rfl (e_t (Ac rfl eh)) Bg (by exact rfl) ?_
 refine Aa (Ae ?_)
 refine BD (fun f st' => ∃ (v10 : (List ByteArray)), ∃ (v11 : (List ByteArray)), ∃ (v12 : (List ByteArray)), d_Suses_stmt_j0 p3 s_Suses_stmt n v10 v11 v12 = some r ∧ f 2 = (.ptr (st.length + 0) 0) ∧ f 3 = (.ptr (st.length + 1) 0) ∧ st' = (List.set (List.set (List.set st x0 (.map AD AU v10)) x1 (.map AD AU v11)) x2 (.map AD AU v12)) ++ [(.box [(.map x0), (.map x1), (.map x2)]), (.box [(.d (.int .i64 p3.Op)), (.d (.str p3.Name)), (.d (.str p3.Src)), (.d (.int .i64 p3.N)), (.d (.sl (List.map rS p3.Cols))), (.d (.sl (List.map TE.row p3.Exprs))), (.d (.sl (List.map TS.row p3.Body))), (.d (.sl (List.map TS.row p3.Else)))])]) ?_ ?_
 · refine Al (Af ?_)
   unfold Pa
   refine AB (e_t eh) (by exact rfl) ?_
   refine Ap (e_t eh) ((Am rfl 1).trans rfl) (by exact rfl) ?_
   refine Aa (Ae ?_)
   refine AX ?_
   refine BD (fun f st' => ∃ (v4 : Bool), G4 p0 p1 p2 p3 s_Suses_stmt n v4 = some r ∧ f 2 = (.ptr (st.length + 0) 0) ∧ f 3 = (.ptr (st.length + 1) 0) ∧ f 9 = (.d (.int .i64 p3.Op)) ∧ f 10 = (.d (.bool v4)) ∧ st' = st ++ [(.box [(.map x0), (.map x1), (.map x2)]), (.box [(.d (.int .i64 p3.Op)), (.d (.str p3.Name)), (.d (.str p3.Src)), (.d (.int .i64 p3.N)), (.d (.sl (List.map rS p3.Cols))), (.d (.sl (List.map TE.row p3.Exprs))), (.d (.sl (List.map TS.row p3.Body))), (.d (.sl (List.map TS.row p3.Else)))])]) ?_ ?_
   · refine Al (Af ?_)
     unfold O0
     refine Ar (e_t eh) e_c (BZ ?_)
     refine Ab (e_t eh) (Aa (Ae ?_))
     refine AC (e_t eh) hr (fun hr => ?_) (fun hr => ?_)
     · refine AN (Ae ?_)
       exact ⟨(decide (p3.Op = (4 : Int))), hr, (Ad rfl (em rfl eh)), (Ad rfl eh), (Ac rfl eh), eh, rfl⟩
     refine Af ?_
     unfold PB
     refine Ar (e_t (Ac rfl eh)) e_c (BZ ?_)
     refine Ab (e_t eh) (Aa (Ae ?_))
     exact ⟨(decide (p3.Op = (5 : Int))), hr, (Ad rfl (Ac rfl (em rfl eh))), (Ad rfl (Ac rfl eh)), (Ad rfl eh), eh, rfl⟩
   rintro f st' ⟨v4, hr, h2, h3, h9, h10, rfl⟩
   rw [G4] at hr
   refine AC (e_t h10) hr (fun hr => ?_) (fun hr => ?_)
   · refine Hb (k := 2) rfl rfl ?_
     unfold Py
     refine Ag (R := []) rfl rfl (AB (e_t h2) (by exact rfl) (Aa ?_))
     refine Ag rfl (Bz (e_t eh)) (Ap (e_t eh) ((Am rfl 0).trans rfl) (by exact rfl) (Aa ?_))
     refine Ag (R := []) rfl rfl (AB (e_t (Ac rfl h3)) (by exact rfl) (Aa ?_))
     refine Ag rfl (Bz (e_t eh)) (Ap (e_t eh) ((Am rfl 1).trans rfl) (by exact rfl) (Aa ?_))
     refine Ag (R := []) rfl rfl (AB (e_t (Ad rfl h2)) (by exact rfl) (Aa ?_))
     refine Ag rfl (Bz (e_t eh)) (Ap (e_t eh) ((Am rfl 0).trans rfl) (by exact rfl) (Aa ?_))
     refine Ag (R := []) rfl rfl (AB (e_t (Ad rfl (Ac rfl h3))) (by exact rfl) (Aa ?_))
     refine Ag rfl (Bz (e_t eh)) (Ap (e_t eh) ((Am rfl 1).trans rfl) (by exact rfl) (Aa ?_))
     refine Ae8 (e_t (Ad rfl (Ac rfl eh))) (e_t (Ad rfl eh)) e_c (GE hx_x0) (fun _ => ((Np hx_x0).trans (congrArg (· ++ _) rfl))) hr (fun v5 hr => ?_)
     refine Ae8 (e_t (Ac rfl eh)) (e_t eh) e_c (GE (Bd hx_x1 hne_x0_x1)) (fun _ => ((Np (Bd hx_x1 hne_x0_x1)).trans (congrArg (· ++ _) rfl))) hr (fun v6 hr => ?_)
     refine BC ?_
     refine ⟨by simp [BV, okPairs, BS, FE, Ym hx_x0, XF hx_x0, XK hx_x0, Za hx_x0, Ym hx_x1, XF hx_x1, XK hx_x1, Za hx_x1, Ym hx_x2, XF hx_x2, XK hx_x2, Za hx_x2, IL hne_x0_x1, HK hne_x0_x1, IL hne_x0_x2, HK hne_x0_x2, IL hne_x1_x2, HK hne_x1_x2], ?_⟩
     refine BA ?_
     refine Ae ?_
     exact ⟨v5, v6, p2, hr, (Ad rfl (Ad rfl h2)), (Ad rfl (Ad rfl h3)), (congrArg (· ++ _) ((HB (Bd (Bd hx_x2 hne_x0_x2) hne_x1_x2)).symm.trans rfl))⟩
   refine Al (Af ?_)
   unfold O3
   refine Ar (e_t h9) e_c (BZ ?_)
   refine Ab (e_t eh) (Aa (Ae ?_))
   refine AC (e_t eh) hr (fun hr => ?_) (fun hr => ?_)
   · refine Af ?_
     unfold Pv
     refine AB (e_t (Ac rfl h2)) (by exact rfl) ?_
     refine Ap (e_t eh) ((Am rfl 0).trans rfl) (by exact rfl) ?_
     refine AB (e_t (Ad rfl h3)) (by exact rfl) ?_
     refine Ap (e_t eh) ((Am rfl 1).trans rfl) (by exact rfl) ?_
     refine Ru (e_t (Ac rfl eh)) (e_t eh) e_c (GE hx_x0) (fun _ => ((Np hx_x0).trans (congrArg (· ++ _) rfl))) hr (fun v7 hr => ?_)
     refine Aa ?_
     refine BA ?_
     refine Ae ?_
     exact ⟨v7, p1, p2, hr, (Ad rfl (Ac rfl h2)), (Ad rfl (Ac rfl h3)), (congrArg (· ++ _) (((HB (Bd hx_x1 hne_x0_x1)).symm.trans rfl).trans ((HB (Bd (Bd hx_x2 hne_x0_x2) hne_x1_x2)).symm.trans rfl)))⟩
   refine Al (Af ?_)
   unfold Pp
   refine Ar (e_t (Ac rfl h9)) e_c (BZ ?_)
   refine Ab (e_t eh) (Aa (Ae ?_))
   refine AC (e_t eh) hr (fun hr => ?_) (fun hr => ?_)
   · refine Af ?_
     unfold Pb
     refine AB (e_t (Ad rfl h2)) (by exact rfl) ?_
     refine Ap (e_t eh) ((Am rfl 0).trans rfl) (by exact rfl) ?_
     refine AB (e_t (Ad rfl (Ac rfl h3))) (by exact rfl) ?_
     refine Ap (e_t eh) ((Am rfl 1).trans rfl) (by exact rfl) ?_
     refine Ru (e_t (Ac rfl eh)) (e_t eh) e_c (GE hx_x1) (fun _ => ((Np hx_x1).trans (congrArg (· ++ _) rfl))) hr (fun v8 hr => ?_)
     refine Aa ?_
     refine BA ?_
     refine Ae ?_
     exact ⟨p0, v8, p2, hr, (Ad rfl (Ad rfl h2)), (Ad rfl (Ad rfl h3)), (congrArg (· ++ _) (((HB (Bd hx_x0 (B1 hne_x0_x1))).symm.trans (IN (B1 hne_x0_x1) rfl)).trans ((HB (Bd (Bd hx_x2 hne_x0_x2) hne_x1_x2)).symm.trans rfl)))⟩
   refine Al (Af ?_)
   unfold Pu
   refine Ar (e_t (Ad rfl h9)) e_c (BZ ?_)
   refine Ab (e_t eh) (Aa (Ae ?_))
   refine AC (e_t eh) hr (fun hr => ?_) (fun hr => ?_)
   rotate_left
   · refine AN ?_
     refine BA ?_
     refine Ae ?_
     exact ⟨p0, p1, p2, hr, (Ad rfl (Ac rfl h2)), (Ad rfl (Ac rfl h3)), (congrArg (· ++ _) ((((HB hx_x0).symm.trans rfl).trans ((HB (Bd hx_x1 hne_x0_x1)).symm.trans rfl)).trans ((HB (Bd (Bd hx_x2 hne_x0_x2) hne_x1_x2)).symm.trans rfl)))⟩
   refine Af ?_
   unfold NT
   refine AB (e_t (Ad rfl (Ac rfl h2))) (by exact rfl) ?_
   refine Ap (e_t eh) ((Am rfl 0).trans rfl) (by exact rfl) ?_
   refine AB (e_t (Ad rfl (Ad rfl h3))) (by exact rfl) ?_
   refine Ap (e_t eh) ((Am rfl 1).trans rfl) (by exact rfl) ?_
   refine Ru (e_t (Ac rfl eh)) (e_t eh) e_c (GE hx_x2) (fun _ => ((Np hx_x2).trans (congrArg (· ++ _) rfl))) hr (fun v9 hr => ?_)
   refine Aa ?_
   refine BA ?_
   refine Ae ?_
   exact ⟨p0, p1, v9, hr, (Ak rfl (Ac rfl h2)), (Ak rfl (Ac rfl h3)), (congrArg (· ++ _) (((HB (Bd hx_x0 (B1 hne_x0_x2))).symm.trans (IN (B1 hne_x0_x2) rfl)).trans ((HB (Bd (Bd hx_x1 hne_x0_x1) (B1 hne_x1_x2))).symm.trans (IN (B1 hne_x1_x2) rfl))))⟩
 rintro f st' ⟨v10, v11, v12, hr, h2, h3, rfl⟩
 rw [d_Suses_stmt_j0] at hr
 refine BD (fun f st' => ∃ (v17 : (List ByteArray)), EJ p3 s_Suses_stmt n v11 v12 v17 = some r ∧ f 2 = (.ptr (st.length + 0) 0) ∧ f 3 = (.ptr (st.length + 1) 0) ∧ st' = (List.set (List.set (List.set st x0 (.map AD AU v17)) x1 (.map AD AU v11)) x2 (.map AD AU v12)) ++ [(.box [(.map x0), (.map x1), (.map x2)]), (.box [(.d (.int .i64 p3.Op)), (.d (.str p3.Name)), (.d (.str p3.Src)), (.d (.int .i64 p3.N)), (.d (.sl (List.map rS p3.Cols))), (.d (.sl (List.map TE.row p3.Exprs))), (.d (.sl (List.map TS.row p3.Body))), (.d (.sl (List.map TS.row p3.Else)))])]) ?_ ?_
 · refine Al (Af ?_)
   unfold Og
   refine AB (e_t h3) (by exact rfl) ?_
   refine Ap (e_t eh) ((Am (AW (AW (AW rfl))) 1).trans rfl) (by exact rfl) ?_
   refine Bh (row := TE.row) (AL (e_t eh) Bq) ?_
   refine Ab e_c (Aa (Ae ?_))
   refine AX ?_
   refine Ca (fun m f st' => ∃ (v13 : (List ByteArray)), ∃ (v14 : Int), C5 p3 s_Suses_stmt n v11 v12 m v13 v14 = some r ∧ f 2 = (.ptr (st.length + 0) 0) ∧ f 3 = (.ptr (st.length + 1) 0) ∧ f 40 = (.d (.sl (List.map TE.row p3.Exprs))) ∧ f 41 = (.d (.int .i64 (p3.Exprs.length : Int))) ∧ f 42 = (.d (.int .i64 v14)) ∧ st' = (List.set (List.set (List.set st x0 (.map AD AU v13)) x1 (.map AD AU v11)) x2 (.map AD AU v12)) ++ [(.box [(.map x0), (.map x1), (.map x2)]), (.box [(.d (.int .i64 p3.Op)), (.d (.str p3.Name)), (.d (.str p3.Src)), (.d (.int .i64 p3.N)), (.d (.sl (List.map rS p3.Cols))), (.d (.sl (List.map TE.row p3.Exprs))), (.d (.sl (List.map TS.row p3.Body))), (.d (.sl (List.map TS.row p3.Else)))])]) n (Ghost.refl _) ⟨v10, (0 : Int), hr, (Ad rfl h2), (Ad rfl h3), (Ac rfl eh), (em rfl eh), eh, rfl⟩ ?_
   rintro m f st' ⟨v13, v14, hr, h2, h3, h40, h41, h42, rfl⟩
   cases m with
   | zero => cases hr
   | succ m_1 =>
     rw [C5] at hr
     generalize hrec_1 : C5 p3 s_Suses_stmt n v11 v12 m_1 = q1 at hr
     rw [HM] at hr
     unfold Oe
     refine Al (Af ?_)
     unfold NS
     refine Ar (e_t h42) (e_t h41) (CL ?_)
     refine Aa (Ae (Al ?_))
     refine AC (e_t eh) hr (fun hr => ?_) (fun hr => ?_)
     rotate_left
     · refine CP ?_
       refine A0 ?_
       refine A0 ?_
       refine Ea ?_
       refine Ae ?_
       exact ⟨v13, hr, (em rfl h2), (em rfl h3), rfl⟩
     refine AN (Ae (Al ?_))
     refine AX ?_
     refine Al (Af ?_)
     unfold NQ
     refine Bt (row := TE.row) (AL (e_t (em rfl h40)) Bq) (e_t (em rfl h42)) hr TE.row_eq (fun _ => rfl) (fun v15 hr => ?_)
     refine DH (e_t eh) (Nat.le_of_ble_eq_true rfl) (by exact rfl) ?_
     refine Ci (k := 2) (AW (AW (AW rfl))) rfl ?_
     refine Bl (e_t eh) ((Am (AW (AW (AW rfl))) 2).trans rfl) (e_t (em rfl eh)) Bg rfl (Nat.le_of_ble_eq_true rfl) (by exact rfl) (cells' := [(.d (.int .i64 v15.Op)), (.d (.int .i64 v15.N)), (.d (.str v15.S)), (.d (.str v15.Name)), (.d (.str v15.Src)), (.d (.sl (List.map TE.row v15.Args)))]) (by exact rfl) (Bk (AW (AW (AW rfl))) _ _) ?_
     refine Aa (Ae (Af ?_))
     unfold Oh
     refine BF (e_t (Ad rfl h2)) ((Am (AW (AW (AW rfl))) 0).trans rfl) (Nat.le_of_ble_eq_true rfl) (by exact rfl) ?_
     refine BF (e_t (em rfl eh)) ((Am (AW (AW (AW rfl))) 2).trans rfl) (Nat.le_of_ble_eq_true rfl) (by exact rfl) ?_
     obtain ⟨v16, hc_v16, hr⟩ := bind_some hr
     refine AP (Ay (e_t (em rfl eh)) (BP (Aq PA (Aq PA (Aq PA Cw)))) (Ay (e_t eh) (BP (Aq f_d (Aq f_d (Aq f_d (Aq f_d (Aq f_d (Aq f_d Cw))))))) AR)) ?_
     refine Aj4 n v13 v11 v12 v15 hc_v16 (GE (Bd (Bd (CT hx_x0) (B1 hne_x0_x1)) (B1 hne_x0_x2))) (GE (Bd (CT (Bd hx_x1 hne_x0_x1)) (B1 hne_x1_x2))) (GE (CT (Bd (Bd hx_x2 hne_x0_x2) hne_x1_x2))) hne_x0_x1 hne_x0_x2 ((Np (Bd (Bd (CT hx_x0) (B1 hne_x0_x1)) (B1 hne_x0_x2))).trans (congrArg (· ++ _) (IN (B1 hne_x0_x2) (IN (B1 hne_x0_x1) Nn)))) ?_
     refine Aa ?_
     refine BA ?_
     refine Ae (Af ?_)
     unfold Ob
     refine Ar (e_t (Ad rfl (Ac rfl (em rfl h42)))) e_c (BX ?_)
     refine Ab (e_t eh) (Aa (Ae ?_))
     exact ⟨m_1, _, Nat.lt_succ_self m_1, Ghost.cut _ (st.length + 2) (Nat.le_add_right _ _), v16, (IntKind.wrap .i64 (v14 + (1 : Int))), (by rw [hrec_1]; exact hr), ((congrArg (cutV _) (Ak rfl (em rfl h2))).trans (by simp [cutV, AJ])), ((congrArg (cutV _) (Ak rfl (em rfl h3))).trans (by simp [cutV, AJ])), ((congrArg (cutV _) (Ak rfl (em rfl h40))).trans (v_d)), ((congrArg (cutV _) (Ak rfl (em rfl h41))).trans (v_d)), ((congrArg (cutV _) eh).trans (v_d)), (EO (l0 := [(.box [(.map x0), (.map x1), (.map x2)]), (.box [(.d (.int .i64 p3.Op)), (.d (.str p3.Name)), (.d (.str p3.Src)), (.d (.int .i64 p3.N)), (.d (.sl (List.map rS p3.Cols))), (.d (.sl (List.map TE.row p3.Exprs))), (.d (.sl (List.map TS.row p3.Body))), (.d (.sl (List.map TS.row p3.Else)))])]) (l1 := _) (WF.setMap (WF.setMap (WF.setMap hwf))) (AW (AW (AW rfl))) rfl (by simp [Ka, cutV, AJ, AJ.belowL, OS hx_x0, OS hx_x1, OS hx_x2]))⟩
 rintro f st' ⟨v17, hr, h2, h3, rfl⟩
 rw [EJ] at hr
 refine Al ?_
 refine Hb (k := 2) (AW (AW (AW rfl))) rfl ?_
 unfold NN
 refine Ag (R := []) rfl rfl (AB (e_t h3) (by exact rfl) (Aa ?_))
 refine Ag rfl (Bz (e_t eh)) (Ap (e_t eh) ((Am (AW (AW (AW rfl))) 1).trans rfl) (by exact rfl) (Aa ?_))
 obtain ⟨v18, hc_v18, hr⟩ := bind_some hr
 refine AC4 (k := 2) (AW (AW (AW rfl))) (by exact rfl) (Ay (e_t eh) AG AR) (Cb (e_t eh) (by exact rfl) FC) (fun S => I8 p3.Body hc_v18) ?_
 refine Ag (R := []) rfl rfl (AB (e_t (Ac rfl (em rfl h3))) (by exact rfl) (Aa ?_))
 refine Ag rfl (Bz (e_t eh)) (Ap (e_t eh) ((Am (AW (AW (AW rfl))) 1).trans rfl) (by exact rfl) (Aa ?_))
 refine Ay5 (row := TS.row) (e_t eh) Bq TS.row_eq (fun _ => rfl) (e_t (Ac rfl eh)) ((Am (AW (AW (AW rfl))) 2).trans rfl) (fun _ => (Bk (AW (AW (AW rfl))) _ _)) hr (fun v19 hr => ?_)
 refine Ag rfl (AL6 (e_t eh)) (Bh (row := TS.row) (AL (e_t eh) (Iz ((Am (AW (AW (AW rfl))) 2).trans rfl))) (Aa ?_))
 refine Ag (R := []) rfl rfl (Ab e_c (Aa ?_))
 refine BC ?_
 refine ⟨by simp [BV, okPairs, BS, FE, Ym hx_x0, XF hx_x0, XK hx_x0, Za hx_x0, Ym hx_x1, XF hx_x1, XK hx_x1, Za hx_x1, Ym hx_x2, XF hx_x2, XK hx_x2, Za hx_x2, IL hne_x0_x1, HK hne_x0_x1, IL hne_x0_x2, HK hne_x0_x2, IL hne_x1_x2, HK hne_x1_x2], ?_⟩
 refine Ae ?_
 refine AX ?_
 refine Ca (fun m f st' => ∃ (v20 : (List ByteArray)), ∃ (v21 : (List ByteArray)), ∃ (v22 : (List ByteArray)), ∃ (v23 : Int), C6 s_Suses_stmt v19 m v20 v21 v22 v23 = some r ∧ f 2 = (.ptr (st.length + 0) 0) ∧ f 55 = (.own (st.length + 2) 2) ∧ f 56 = (.d (.int .i64 (v19.length : Int))) ∧ f 57 = (.d (.int .i64 v23)) ∧ st' = (List.set (List.set (List.set st x0 (.map AD AU v20)) x1 (.map AD AU v21)) x2 (.map AD AU v22)) ++ [(.box [(.map x0), (.map x1), (.map x2)]), (.box [(.d (.int .i64 p3.Op)), (.d (.str p3.Name)), (.d (.str p3.Src)), (.d (.int .i64 p3.N)), (.d (.sl (List.map rS p3.Cols))), (.d (.sl (List.map TE.row p3.Exprs))), (.d (.sl (List.map TS.row p3.Body))), (.d (.sl (List.map TS.row p3.Else)))]), (.row AO 2 (List.map TS.row v19)), .fresh]) n (Ghost.refl _) ⟨v17, v11, v12, (0 : Int), hr, (Ad rfl (Ad rfl h2)), (Ac rfl eh), (em rfl eh), eh, rfl⟩ ?_
 rintro m f st' ⟨v20, v21, v22, v23, hr, h2, h55, h56, h57, rfl⟩
 cases m with
 | zero => cases hr
 | succ m_0 =>
   rw [C6] at hr
   generalize hrec_0 : C6 s_Suses_stmt v19 m_0 = q0 at hr
   rw [HT] at hr
   unfold Nq
   refine Al (Af ?_)
   unfold NC
   refine Ar (e_t h57) (e_t h56) (CL ?_)
   refine Aa (Ae (Al ?_))
   refine AC (e_t eh) hr (fun hr => ?_) (fun hr => ?_)
   rotate_left
   · refine CP ?_
     refine A0 ?_
     refine A0 ?_
     refine Ea ?_
     cases hr
     exact At6 AH AK2 (Af8 (WF.setMap (WF.setMap (WF.setMap hwf))) (AW (AW (AW rfl)))) h
   refine AN (Ae (Al ?_))
   refine AX ?_
   refine Al (Af ?_)
   unfold NZ
   refine Bt (row := TS.row) (AL (e_t (em rfl h55)) (Iz ((Am (AW (AW (AW rfl))) 2).trans rfl))) (e_t (em rfl h57)) hr TS.row_eq (fun _ => rfl) (fun v24 hr => ?_)
   refine DH (e_t eh) (Nat.le_of_ble_eq_true rfl) (by exact rfl) ?_
   refine Ci (k := 4) (AW (AW (AW rfl))) rfl ?_
   refine Bl (e_t eh) ((Am (AW (AW (AW rfl))) 4).trans rfl) (e_t (em rfl eh)) Bg rfl (Nat.le_of_ble_eq_true rfl) (by exact rfl) (cells' := [(.d (.int .i64 v24.Op)), (.d (.str v24.Name)), (.d (.str v24.Src)), (.d (.int .i64 v24.N)), (.d (.sl (List.map rS v24.Cols))), (.d (.sl (List.map TE.row v24.Exprs))), (.d (.sl (List.map TS.row v24.Body))), (.d (.sl (List.map TS.row v24.Else)))]) (by exact rfl) (Bk (AW (AW (AW rfl))) _ _) ?_
   refine Aa (Ae (Af ?_))
   unfold Ov
   refine BF (e_t (Ad rfl h2)) ((Am (AW (AW (AW rfl))) 0).trans rfl) (Nat.le_of_ble_eq_true rfl) (by exact rfl) ?_
   refine BF (e_t (em rfl eh)) ((Am (AW (AW (AW rfl))) 4).trans rfl) (Nat.le_of_ble_eq_true rfl) (by exact rfl) ?_
   obtain ⟨v25, hc_v25, hr⟩ := bind_some hr
   refine AP (Ay (e_t (em rfl eh)) (BP (Aq PA (Aq PA (Aq PA Cw)))) (Ay (e_t eh) (BP (Aq f_d (Aq f_d (Aq f_d (Aq f_d (Aq f_d (Aq f_d (Aq f_d (Aq f_d Cw))))))))) AR)) ?_
   refine H_s_Suses_stmt v20 v21 v22 v24 hc_v25 (GE (Bd (Bd (CT hx_x0) (B1 hne_x0_x1)) (B1 hne_x0_x2))) (GE (Bd (CT (Bd hx_x1 hne_x0_x1)) (B1 hne_x1_x2))) (GE (CT (Bd (Bd hx_x2 hne_x0_x2) hne_x1_x2))) hne_x0_x1 hne_x0_x2 hne_x1_x2 ((congrArg (List.set · _ _) ((congrArg (List.set · _ _) ((Np (Bd (Bd (CT hx_x0) (B1 hne_x0_x1)) (B1 hne_x0_x2))).trans (congrArg (· ++ _) (IN (B1 hne_x0_x2) (IN (B1 hne_x0_x1) Nn))))).trans ((Np (Bd (CT (Bd hx_x1 hne_x0_x1)) (B1 hne_x1_x2))).trans (congrArg (· ++ _) (IN (B1 hne_x1_x2) Nn))))).trans ((Np (CT (Bd (Bd hx_x2 hne_x0_x2) hne_x1_x2))).trans (congrArg (· ++ _) Nn))) ?_
   refine Aa ?_
   refine BA ?_
   refine Ae (Af ?_)
   unfold NU
   refine Ar (e_t (Ad rfl (Ac rfl (em rfl h57)))) e_c (BX ?_)
   refine Ab (e_t eh) (Aa (Ae ?_))
   exact ⟨m_0, _, Nat.lt_succ_self m_0, Ghost.cut _ (st.length + 4) (Nat.le_add_right _ _), v25.1, v25.2.1, v25.2.2, (IntKind.wrap .i64 (v23 + (1 : Int))), (by rw [hrec_0]; exact hr), ((congrArg (cutV _) (Ak rfl (em rfl h2))).trans (by simp [cutV, AJ])), ((congrArg (cutV _) (Ak rfl (em rfl h55))).trans (by simp [cutV, AJ])), ((congrArg (cutV _) (Ak rfl (em rfl h56))).trans (v_d)), ((congrArg (cutV _) eh).trans (v_d)), (EO (l0 := [(.box [(.map x0), (.map x1), (.map x2)]), (.box [(.d (.int .i64 p3.Op)), (.d (.str p3.Name)), (.d (.str p3.Src)), (.d (.int .i64 p3.N)), (.d (.sl (List.map rS p3.Cols))), (.d (.sl (List.map TE.row p3.Exprs))), (.d (.sl (List.map TS.row p3.Body))), (.d (.sl (List.map TS.row p3.Else)))]), (.row AO 2 (List.map TS.row v19)), .fresh]) (l1 := _) (WF.setMap (WF.setMap (WF.setMap hwf))) (AW (AW (AW rfl))) rfl (by simp [Ka, cutV, AJ, AJ.belowL, OS hx_x0, OS hx_x1, OS hx_x2]))⟩
def Bi : Nat → (List ByteArray) → (List ByteArray) → (List ByteArray) → TS → Option ((List ByteArray) × (List ByteArray) × (List ByteArray))
 | 0, _, _, _, _ => none
 | n + 1, p0, p1, p2, p3 => Hv (Bi n) n p0 p1 p2 p3
theorem R7 : ∀ n : Nat, (∀ (p0 : (List ByteArray)) (p1 : (List ByteArray)) (p2 : (List ByteArray)) (p3 : TS) {r : ((List ByteArray) × (List ByteArray) × (List ByteArray))}, Bi n p0 p1 p2 p3 = some r → ∀ {st : List Content} {x0 : Nat} {x1 : Nat} {x2 : Nat} (hx_x0 : st[x0]? = some (.map AD AU p0)) (hx_x1 : st[x1]? = some (.map AD AU p1)) (hx_x2 : st[x2]? = some (.map AD AU p2)) (hne_x0_x1 : (x0 == x1) = false) (hne_x0_x2 : (x0 == x2) = false) (hne_x1_x2 : (x1 == x2) = false) {st' : List Content} (hst : (List.set (List.set (List.set st x0 (.map AD AU r.1)) x1 (.map AD AU r.2.1)) x2 (.map AD AU r.2.2)) = st') {K : PV → List Content → Prop} (h : K (.tup []) st'), Aw PR GR [(.agg [(.map x0), (.map x1), (.map x2)]), (.agg [(.d (.int .i64 p3.Op)), (.d (.str p3.Name)), (.d (.str p3.Src)), (.d (.int .i64 p3.N)), (.d (.sl (List.map rS p3.Cols))), (.d (.sl (List.map TE.row p3.Exprs))), (.d (.sl (List.map TS.row p3.Body))), (.d (.sl (List.map TS.row p3.Else)))])] st K)
 | 0 => fun _ _ _ _ _ hr => (by rw [Bi] at hr; cases hr)
 | n + 1 => fun p0 p1 p2 p3 _ hr _ _ _ _ hx_x0 hx_x1 hx_x2 hne_x0_x1 hne_x0_x2 hne_x1_x2 _ hst _ h => Aa7 (Bi n) n p0 p1 p2 p3 (R7 n) (by rw [Bi] at hr; exact hr) hx_x0 hx_x1 hx_x2 hne_x0_x1 hne_x0_x2 hne_x1_x2 hst h
theorem Ag1 (n : Nat) (p0 : (List ByteArray)) (p1 : (List ByteArray)) (p2 : (List ByteArray)) (p3 : TS) {r : ((List ByteArray) × (List ByteArray) × (List ByteArray))} (hr : Bi n p0 p1 p2 p3 = some r) {x0 : Nat} {x1 : Nat} {x2 : Nat} (hx_x0 : st[x0]? = some (.map AD AU p0)) (hx_x1 : st[x1]? = some (.map AD AU p1)) (hx_x2 : st[x2]? = some (.map AD AU p2)) (hne_x0_x1 : (x0 == x1) = false) (hne_x0_x2 : (x0 == x2) = false) (hne_x1_x2 : (x1 == x2) = false) {st' : List Content} (hst : (List.set (List.set (List.set st x0 (.map AD AU r.1)) x1 (.map AD AU r.2.1)) x2 (.map AD AU r.2.2)) = st') {K : PV → List Content → Prop} (h : K (.tup []) st') : Aw PR GR [(.agg [(.map x0), (.map x1), (.map x2)]), (.agg [(.d (.int .i64 p3.Op)), (.d (.str p3.Name)), (.d (.str p3.Src)), (.d (.int .i64 p3.N)), (.d (.sl (List.map rS p3.Cols))), (.d (.sl (List.map TE.row p3.Exprs))), (.d (.sl (List.map TS.row p3.Body))), (.d (.sl (List.map TS.row p3.Else)))])] st K := (R7 n) p0 p1 p2 p3 hr hx_x0 hx_x1 hx_x2 hne_x0_x1 hne_x0_x2 hne_x1_x2 hst h
def MX (p0 : TP) (n : Nat) (q0 : (List ByteArray) → (List ByteArray) → (List ByteArray) → Int → Option ((List ByteArray) × (List ByteArray) × (List ByteArray))) (v2 : (List ByteArray)) (v3 : (List ByteArray)) (v4 : (List ByteArray)) (v5 : Int) : Option ((List ByteArray) × (List ByteArray) × (List ByteArray)) :=
 (bif (decide (v5 < (p0.Body.length : Int))) then ((Dh p0.Body v5).bind fun v6 => ((Bi n v2 v3 v4 v6).bind fun v7 => q0 v7.1 v7.2.1 v7.2.2 (IntKind.wrap .i64 (v5 + (1 : Int))))) else some (v2, v3, v4))
def F0 (p0 : TP) (n : Nat) : Nat → (List ByteArray) → (List ByteArray) → (List ByteArray) → Int → Option ((List ByteArray) × (List ByteArray) × (List ByteArray))
 | 0, _, _, _, _ => none
 | m + 1, v2, v3, v4, v5 => MX p0 n (F0 p0 n m) v2 v3 v4 v5
def KT (n : Nat) (p0 : TP) : Option ((List ByteArray) × (List ByteArray) × (List ByteArray)) :=
 ((Kf n p0).bind fun v1 => (bif v1 then (F0 p0 n n ([]) ([]) ([]) (0 : Int)) else some ([], [], [])))
set_option maxRecDepth 100000 in
set_option maxHeartbeats 4000000 in
theorem AA5 (n : Nat) (p0 : TP) {r : ((List ByteArray) × (List ByteArray) × (List ByteArray))} (hr : KT n p0 = some r) {m : Nat} (hm : st.length = m) {st' : List Content} (hst : st ++ [.dead, (.box [(.map (m + 2)), (.map (m + 3)), (.map (m + 4))]), (.map AD AU r.1), (.map AD AU r.2.1), (.map AD AU r.2.2)] = st') {K : PV → List Content → Prop} (h : K (.agg [(.map (m + 2)), (.map (m + 3)), (.map (m + 4))]) st') : Aw PR Xr [(.agg [(.d (.str p0.Name)), (.d (.str p0.From)), (.d (.str p0.At)), (.d (.int .i64 p0.Fuel)), (.d (.sl (List.map T_api_Column.row p0.Params))), (.d (.sl (List.map TS.row p0.Body)))])] st K := by
 refine Aw.of_ownG AK8 (Nat.le_of_ble_eq_true rfl) fun hwf => ?_
 rw [Cm]
 refine AQ ?_
 unfold AA2
 rw [KT] at hr
 refine Al (Af ?_)
 unfold Y5
 refine Gw (k := 0) rfl rfl (e_t eh) Bg (by exact rfl) ?_
 refine Ci (k := 1) rfl rfl ?_
 refine Aa (Ae (Al (Af ?_)))
 unfold XB
 refine Ai4 (k := 2) rfl rfl ?_
 refine Ai4 (k := 3) rfl rfl ?_
 refine Ai4 (k := 4) rfl rfl ?_
 refine Ir (cs := [(.map (st.length + 2)), (.map (st.length + 3)), (.map (st.length + 4))]) (Cl (e_t (Ac rfl eh)) rfl rfl (Nat.le_of_ble_eq_true rfl) (by exact rfl) (Cl (e_t (em rfl eh)) rfl rfl (Nat.le_of_ble_eq_true rfl) (by exact rfl) (Cl (e_t eh) rfl rfl (Nat.le_of_ble_eq_true rfl) (by exact rfl) Kp))) (Ck (e_t (Ac rfl eh)) rfl (by exact rfl) (Ck (e_t (em rfl eh)) rfl (by exact rfl) (Ck (e_t eh) rfl (by exact rfl) Kt))) ?_
 refine Ci (k := 5) rfl rfl ?_
 refine Bl (e_t eh) ((Am rfl 5).trans rfl) (e_t (em rfl eh)) Bg rfl (Nat.le_of_ble_eq_true rfl) (by exact rfl) (cells' := [(.map (st.length + 2)), (.map (st.length + 3)), (.map (st.length + 4))]) (by exact rfl) (Bk rfl _ _) ?_
 refine Aa (Ae (Al (Al (Af ?_))))
 unfold X9
 refine BF (e_t (Ad rfl (Ac rfl eh))) ((Am rfl 0).trans rfl) (Nat.le_of_ble_eq_true rfl) (by exact rfl) ?_
 obtain ⟨v1, hc_v1, hr⟩ := bind_some hr
 refine AP (Ay (e_t eh) (BP (Aq f_d (Aq f_d (Aq f_d (Aq f_d (Aq f_d (Aq f_d Cw))))))) AR) ?_
 refine X8 n p0 hc_v1 ?_
 refine Aa (Ae ?_)
 refine AC (e_t eh) hr (fun hr => ?_) (fun hr => ?_)
 rotate_left
 · refine AN (Ae (Al (Af ?_)))
   unfold Sl
   refine BF (e_t (Ac rfl eh)) ((Am rfl 5).trans rfl) (Nat.le_of_ble_eq_true rfl) (by exact rfl) ?_
   refine Bl (e_t (Ad rfl (Ad rfl eh))) ((Am rfl 1).trans rfl) (e_t eh) Bg rfl (Nat.le_of_ble_eq_true rfl) (by exact rfl) (cells' := [(.map (st.length + 2)), (.map (st.length + 3)), (.map (st.length + 4))]) (by exact rfl) (Bk rfl _ _) ?_
   refine Aa (Ae (AI ?_))
   cases hr
   subst hm
   refine ⟨_, (Ax6 0 rfl), ?_⟩
   exact ⟨_, st.length + 5, (GK (Ad rfl (Ad rfl eh)) ((Am rfl 1).trans rfl) (Nat.le_of_ble_eq_true rfl) (by exact rfl) AH), Nat.le_add_right _ _, Ay7 (by simp [G2, cutV, AJ, AJ.belowL]) (Ay9 (l0 := [.dead, (.box [(.map (st.length + 2)), (.map (st.length + 3)), (.map (st.length + 4))]), (.map AD AU ([])), (.map AD AU ([])), (.map AD AU ([]))]) (l1 := _) hwf rfl rfl (by simp [Ka, cutV, AJ, AJ.belowL]) hst) h⟩
 refine Al (Af ?_)
 unfold YW
 refine AB (e_t (Ad rfl (Ad rfl eh))) (by exact rfl) ?_
 refine Ap (e_t eh) ((Am rfl 0).trans rfl) (by exact rfl) ?_
 refine Bh (row := TS.row) (AL (e_t eh) Bq) ?_
 refine Ab e_c (Aa (Ae ?_))
 refine AX ?_
 refine Ca (fun m f st' => ∃ (v2 : (List ByteArray)), ∃ (v3 : (List ByteArray)), ∃ (v4 : (List ByteArray)), ∃ (v5 : Int), F0 p0 n m v2 v3 v4 v5 = some r ∧ f 2 = (.ptr (st.length + 1) 0) ∧ f 3 = (.ptr (st.length + 5) 0) ∧ f 13 = (.d (.sl (List.map TS.row p0.Body))) ∧ f 14 = (.d (.int .i64 (p0.Body.length : Int))) ∧ f 15 = (.d (.int .i64 v5)) ∧ st' = st ++ [(.box [(.d (.str p0.Name)), (.d (.str p0.From)), (.d (.str p0.At)), (.d (.int .i64 p0.Fuel)), (.d (.sl (List.map T_api_Column.row p0.Params))), (.d (.sl (List.map TS.row p0.Body)))]), (.box [.nilm, .nilm, .nilm]), (.map AD AU v2), (.map AD AU v3), (.map AD AU v4), (.box [(.map (st.length + 2)), (.map (st.length + 3)), (.map (st.length + 4))])]) n (Ghost.refl _) ⟨[], [], [], (0 : Int), hr, (Ak rfl (Ac rfl (em rfl eh))), (Ad rfl (Ac rfl eh)), (Ac rfl eh), (em rfl eh), eh, rfl⟩ ?_
 rintro m f st' ⟨v2, v3, v4, v5, hr, h2, h3, h13, h14, h15, rfl⟩
 cases m with
 | zero => cases hr
 | succ m_0 =>
   rw [F0] at hr
   generalize hrec_0 : F0 p0 n m_0 = q0 at hr
   rw [MX] at hr
   unfold Zc
   refine Al (Af ?_)
   unfold XG
   refine Ar (e_t h15) (e_t h14) (CL ?_)
   refine Aa (Ae (Al ?_))
   refine AC (e_t eh) hr (fun hr => ?_) (fun hr => ?_)
   rotate_left
   · refine CP ?_
     refine A0 ?_
     refine A0 ?_
     refine Ea ?_
     refine Ae (Al (Af ?_))
     unfold Sl
     refine BF (e_t (em rfl h3)) ((Am rfl 5).trans rfl) (Nat.le_of_ble_eq_true rfl) (by exact rfl) ?_
     refine Bl (e_t (Ac rfl h2)) ((Am rfl 1).trans rfl) (e_t eh) Bg rfl (Nat.le_of_ble_eq_true rfl) (by exact rfl) (cells' := [(.map (st.length + 2)), (.map (st.length + 3)), (.map (st.length + 4))]) (by exact rfl) (Bk rfl _ _) ?_
     refine Aa (Ae (AI ?_))
     cases hr
     subst hm
     refine ⟨_, (Ax6 0 rfl), ?_⟩
     exact ⟨_, st.length + 5, (GK (Ac rfl h2) ((Am rfl 1).trans rfl) (Nat.le_of_ble_eq_true rfl) (by exact rfl) AH), Nat.le_add_right _ _, Ay7 (by simp [G2, cutV, AJ, AJ.belowL]) (Ay9 (l0 := [.dead, (.box [(.map (st.length + 2)), (.map (st.length + 3)), (.map (st.length + 4))]), (.map AD AU v2), (.map AD AU v3), (.map AD AU v4)]) (l1 := _) hwf rfl rfl (by simp [Ka, cutV, AJ, AJ.belowL]) hst) h⟩
   refine AN (Ae (Al ?_))
   refine AX ?_
   refine Al (Af ?_)
   unfold Zp
   refine Bt (row := TS.row) (AL (e_t (em rfl h13)) Bq) (e_t (em rfl h15)) hr TS.row_eq (fun _ => rfl) (fun v6 hr => ?_)
   refine DH (e_t eh) (Nat.le_of_ble_eq_true rfl) (by exact rfl) ?_
   refine Ci (k := 6) rfl rfl ?_
   refine Bl (e_t eh) ((Am rfl 6).trans rfl) (e_t (em rfl eh)) Bg rfl (Nat.le_of_ble_eq_true rfl) (by exact rfl) (cells' := [(.d (.int .i64 v6.Op)), (.d (.str v6.Name)), (.d (.str v6.Src)), (.d (.int .i64 v6.N)), (.d (.sl (List.map rS v6.Cols))), (.d (.sl (List.map TE.row v6.Exprs))), (.d (.sl (List.map TS.row v6.Body))), (.d (.sl (List.map TS.row v6.Else)))]) (by exact rfl) (Bk rfl _ _) ?_
   refine Aa (Ae (Af ?_))
   unfold XO
   refine BF (e_t (Ad rfl h3)) ((Am rfl 5).trans rfl) (Nat.le_of_ble_eq_true rfl) (by exact rfl) ?_
   refine BF (e_t (em rfl eh)) ((Am rfl 6).trans rfl) (Nat.le_of_ble_eq_true rfl) (by exact rfl) ?_
   obtain ⟨v7, hc_v7, hr⟩ := bind_some hr
   refine AP (Ay (e_t (em rfl eh)) (BP (Aq PA (Aq PA (Aq PA Cw)))) (Ay (e_t eh) (BP (Aq f_d (Aq f_d (Aq f_d (Aq f_d (Aq f_d (Aq f_d (Aq f_d (Aq f_d Cw))))))))) AR)) ?_
   refine Ag1 n v2 v3 v4 v6 hc_v7 ((Am rfl 2).trans rfl) ((Am rfl 3).trans rfl) ((Am rfl 4).trans rfl) (by simp) (by simp) (by simp) ((congrArg (List.set · _ _) ((congrArg (List.set · _ _) (Bk rfl _ _)).trans (Bk rfl _ _))).trans (Bk rfl _ _)) ?_
   refine Aa ?_
   refine BA ?_
   refine Ae (Af ?_)
   unfold Yf
   refine Ar (e_t (Ad rfl (Ac rfl (em rfl h15)))) e_c (BX ?_)
   refine Ab (e_t eh) (Aa (Ae ?_))
   exact ⟨m_0, _, Nat.lt_succ_self m_0, Ghost.cut _ (st.length + 6) (Nat.le_add_right _ _), v7.1, v7.2.1, v7.2.2, (IntKind.wrap .i64 (v5 + (1 : Int))), (by rw [hrec_0]; exact hr), ((congrArg (cutV _) (Ak rfl (em rfl h2))).trans (by simp [cutV, AJ])), ((congrArg (cutV _) (Ak rfl (em rfl h3))).trans (by simp [cutV, AJ])), ((congrArg (cutV _) (Ak rfl (em rfl h13))).trans (v_d)), ((congrArg (cutV _) (Ak rfl (em rfl h14))).trans (v_d)), ((congrArg (cutV _) eh).trans (v_d)), (EO (l0 := [(.box [(.d (.str p0.Name)), (.d (.str p0.From)), (.d (.str p0.At)), (.d (.int .i64 p0.Fuel)), (.d (.sl (List.map T_api_Column.row p0.Params))), (.d (.sl (List.map TS.row p0.Body)))]), (.box [.nilm, .nilm, .nilm]), (.map AD AU v7.1), (.map AD AU v7.2.1), (.map AD AU v7.2.2), (.box [(.map (st.length + 2)), (.map (st.length + 3)), (.map (st.length + 4))])]) (l1 := _) hwf rfl rfl (by simp [Ka, cutV, AJ, AJ.belowL]))⟩
end Go.Ax
