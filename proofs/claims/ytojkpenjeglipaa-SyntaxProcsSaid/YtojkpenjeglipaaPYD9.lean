import Derived.Test.YtojkpenjeglipaaPYT
import Derived.Test.YtojkpenjeglipaaPCVX
import Derived.Test.YtojkpenjeglipaaPCPrim
import Derived.Test.YtojkpenjeglipaaPYD7
import Derived.Test.YtojkpenjeglipaaPYD8
set_option linter.unusedVariables false
set_option linter.unusedSimpArgs false
namespace Go.Ax
attribute [local irreducible] BQ EX FK Bg CQ FI B8 Le Ii upd ev u0 Dw frz A9 EK mmD bnd B2 FD Dq CR G3 HS Hg cutV JT Cy
variable {st : List Content}
def Ie (s_Suses_stmt : (List ByteArray) → (List ByteArray) → (List ByteArray) → TS → Option ((List ByteArray) × (List ByteArray) × (List ByteArray))) (v19 : (List TS)) (q0 : (List ByteArray) → (List ByteArray) → (List ByteArray) → Int → Option ((List ByteArray) × (List ByteArray) × (List ByteArray))) (v20 : (List ByteArray)) (v21 : (List ByteArray)) (v22 : (List ByteArray)) (v23 : Int) : Option ((List ByteArray) × (List ByteArray) × (List ByteArray)) :=
 (bif (decide (v23 < (v19.length : Int))) then ((Dd v19 v23).bind fun v24 => ((s_Suses_stmt v20 v21 v22 v24).bind fun v25 => q0 v25.1 v25.2.1 v25.2.2 (IntKind.wrap .i64 (v23 + (1 : Int))))) else some (v20, v21, v22))
def C7 (s_Suses_stmt : (List ByteArray) → (List ByteArray) → (List ByteArray) → TS → Option ((List ByteArray) × (List ByteArray) × (List ByteArray))) (v19 : (List TS)) : Nat → (List ByteArray) → (List ByteArray) → (List ByteArray) → Int → Option ((List ByteArray) × (List ByteArray) × (List ByteArray))
 | 0, _, _, _, _ => none
 | m + 1, v20, v21, v22, v23 => Ie s_Suses_stmt v19 (C7 s_Suses_stmt v19 m) v20 v21 v22 v23
def EV (p3 : TS) (s_Suses_stmt : (List ByteArray) → (List ByteArray) → (List ByteArray) → TS → Option ((List ByteArray) × (List ByteArray) × (List ByteArray))) (n : Nat) (v11 : (List ByteArray)) (v12 : (List ByteArray)) (v17 : (List ByteArray)) : Option ((List ByteArray) × (List ByteArray) × (List ByteArray)) :=
 ((Yv 144 p3.Body).bind fun v18 => ((Ib 144 v18 p3.Else).bind fun v19 => (C7 s_Suses_stmt v19 n v17 v11 v12 (0 : Int))))
def H1 (p3 : TS) (s_Suses_stmt : (List ByteArray) → (List ByteArray) → (List ByteArray) → TS → Option ((List ByteArray) × (List ByteArray) × (List ByteArray))) (n : Nat) (v11 : (List ByteArray)) (v12 : (List ByteArray)) (q1 : (List ByteArray) → Int → Option ((List ByteArray) × (List ByteArray) × (List ByteArray))) (v13 : (List ByteArray)) (v14 : Int) : Option ((List ByteArray) × (List ByteArray) × (List ByteArray)) :=
 (bif (decide (v14 < (p3.Exprs.length : Int))) then ((Dd p3.Exprs v14).bind fun v15 => ((BS n v13 v11 v12 v15).bind fun v16 => q1 v16 (IntKind.wrap .i64 (v14 + (1 : Int))))) else (EV p3 s_Suses_stmt n v11 v12 v13))
def C5 (p3 : TS) (s_Suses_stmt : (List ByteArray) → (List ByteArray) → (List ByteArray) → TS → Option ((List ByteArray) × (List ByteArray) × (List ByteArray))) (n : Nat) (v11 : (List ByteArray)) (v12 : (List ByteArray)) : Nat → (List ByteArray) → Int → Option ((List ByteArray) × (List ByteArray) × (List ByteArray))
 | 0, _, _ => none
 | m + 1, v13, v14 => H1 p3 s_Suses_stmt n v11 v12 (C5 p3 s_Suses_stmt n v11 v12 m) v13 v14
def d_Suses_stmt_j0 (p3 : TS) (s_Suses_stmt : (List ByteArray) → (List ByteArray) → (List ByteArray) → TS → Option ((List ByteArray) × (List ByteArray) × (List ByteArray))) (n : Nat) (v10 : (List ByteArray)) (v11 : (List ByteArray)) (v12 : (List ByteArray)) : Option ((List ByteArray) × (List ByteArray) × (List ByteArray)) :=
 (C5 p3 s_Suses_stmt n v11 v12 n v10 (0 : Int))
def Hi (p0 : (List ByteArray)) (p1 : (List ByteArray)) (p2 : (List ByteArray)) (p3 : TS) (s_Suses_stmt : (List ByteArray) → (List ByteArray) → (List ByteArray) → TS → Option ((List ByteArray) × (List ByteArray) × (List ByteArray))) (n : Nat) (v4 : Bool) : Option ((List ByteArray) × (List ByteArray) × (List ByteArray)) :=
 (bif v4 then ((Ye p0 p3.Src).bind fun v5 => ((Ye p1 p3.Src).bind fun v6 => (d_Suses_stmt_j0 p3 s_Suses_stmt n v5 v6 p2))) else (bif (decide (p3.Op = (6 : Int))) then ((Ye p0 p3.Src).bind fun v7 => (d_Suses_stmt_j0 p3 s_Suses_stmt n v7 p1 p2)) else (bif (decide (p3.Op = (3 : Int))) then ((Ye p1 p3.Src).bind fun v8 => (d_Suses_stmt_j0 p3 s_Suses_stmt n p0 v8 p2)) else (bif (decide (p3.Op = (8 : Int))) then ((Ye p2 p3.Src).bind fun v9 => (d_Suses_stmt_j0 p3 s_Suses_stmt n p0 p1 v9)) else (d_Suses_stmt_j0 p3 s_Suses_stmt n p0 p1 p2)))))
def HG (s_Suses_stmt : (List ByteArray) → (List ByteArray) → (List ByteArray) → TS → Option ((List ByteArray) × (List ByteArray) × (List ByteArray))) (n : Nat) (p0 : (List ByteArray)) (p1 : (List ByteArray)) (p2 : (List ByteArray)) (p3 : TS) : Option ((List ByteArray) × (List ByteArray) × (List ByteArray)) :=
 (bif (decide (p3.Op = (4 : Int))) then (Hi p0 p1 p2 p3 s_Suses_stmt n (decide (p3.Op = (4 : Int)))) else (Hi p0 p1 p2 p3 s_Suses_stmt n (decide (p3.Op = (5 : Int)))))
set_option maxRecDepth 100000 in
set_option maxHeartbeats 4000000 in
theorem Ah7 (s_Suses_stmt : (List ByteArray) → (List ByteArray) → (List ByteArray) → TS → Option ((List ByteArray) × (List ByteArray) × (List ByteArray))) (n : Nat) (p0 : (List ByteArray)) (p1 : (List ByteArray)) (p2 : (List ByteArray)) (p3 : TS) (H_s_Suses_stmt : ∀ (p0 : (List ByteArray)) (p1 : (List ByteArray)) (p2 : (List ByteArray)) (p3 : TS) {r : ((List ByteArray) × (List ByteArray) × (List ByteArray))}, s_Suses_stmt p0 p1 p2 p3 = some r → ∀ {st : List Content} {x0 : Nat} {x1 : Nat} {x2 : Nat} (hx_x0 : st[x0]? = some (.map AD AV p0)) (hx_x1 : st[x1]? = some (.map AD AV p1)) (hx_x2 : st[x2]? = some (.map AD AV p2)) (hne_x0_x1 : (x0 == x1) = false) (hne_x0_x2 : (x0 == x2) = false) (hne_x1_x2 : (x1 == x2) = false) {st' : List Content} (hst : (List.set (List.set (List.set st x0 (.map AD AV r.1)) x1 (.map AD AV r.2.1)) x2 (.map AD AV r.2.2)) = st') {K : PV → List Content → Prop} (h : K (.tup []) st'), Av PR GY [(.agg [(.map x0), (.map x1), (.map x2)]), (.agg [(.d (.int .i64 p3.Op)), (.d (.str p3.Name)), (.d (.str p3.Src)), (.d (.int .i64 p3.N)), (.d (.sl (List.map rS p3.Cols))), (.d (.sl (List.map TE.row p3.Exprs))), (.d (.sl (List.map TS.row p3.Body))), (.d (.sl (List.map TS.row p3.Else)))])] st K) {r : ((List ByteArray) × (List ByteArray) × (List ByteArray))} (hr : HG s_Suses_stmt n p0 p1 p2 p3 = some r) {x0 : Nat} {x1 : Nat} {x2 : Nat} (hx_x0 : st[x0]? = some (.map AD AV p0)) (hx_x1 : st[x1]? = some (.map AD AV p1)) (hx_x2 : st[x2]? = some (.map AD AV p2)) (hne_x0_x1 : (x0 == x1) = false) (hne_x0_x2 : (x0 == x2) = false) (hne_x1_x2 : (x1 == x2) = false) {st' : List Content} (hst : (List.set (List.set (List.set st x0 (.map AD AV r.1)) x1 (.map AD AV r.2.1)) x2 (.map AD AV r.2.2)) = st') {K : PV → List Content → Prop} (h : K (.tup []) st') : Av PR GY [(.agg [(.map x0), (.map x1), (.map x2)]), (.agg [(.d (.int .i64 p3.Op)), (.d (.str p3.Name)), (.d (.str p3.Src)), (.d (.int .i64 p3.N)), (.d (.sl (List.map rS p3.Cols))), (.d (.sl (List.map TE.row p3.Exprs))), (.d (.sl (List.map TS.row p3.Body))), (.d (.sl (List.map TS.row p3.Else)))])] st K := by
 subst hst
 refine Av.of An2 (Nat.le_of_ble_eq_true rfl) fun hwf => ?_
 rw [Ed]
 refine AQ ?_
 unfold T6
 rw [HG] at hr
 refine Al (Af ?_)
 unfold Qe
 refine Gq (k := 0) rfl rfl (e_t eh) Bf (by exact rfl) ?_
 refine Gq (k := 1) rfl rfl (e_t (Ac rfl eh)) Bf (by exact rfl) ?_
 refine Aa (Ae ?_)
 refine By (fun f st' => ∃ (v10 : (List ByteArray)), ∃ (v11 : (List ByteArray)), ∃ (v12 : (List ByteArray)), d_Suses_stmt_j0 p3 s_Suses_stmt n v10 v11 v12 = some r ∧ f 2 = (.ptr (st.length + 0) 0) ∧ f 3 = (.ptr (st.length + 1) 0) ∧ st' = (List.set (List.set (List.set st x0 (.map AD AV v10)) x1 (.map AD AV v11)) x2 (.map AD AV v12)) ++ [(.box [(.map x0), (.map x1), (.map x2)]), (.box [(.d (.int .i64 p3.Op)), (.d (.str p3.Name)), (.d (.str p3.Src)), (.d (.int .i64 p3.N)), (.d (.sl (List.map rS p3.Cols))), (.d (.sl (List.map TE.row p3.Exprs))), (.d (.sl (List.map TS.row p3.Body))), (.d (.sl (List.map TS.row p3.Else)))])]) ?_ ?_
 · refine Al (Af ?_)
   unfold PI
   refine AB (e_t eh) (by exact rfl) ?_
   refine Ap (e_t eh) ((Am rfl 1).trans rfl) (by exact rfl) ?_
   refine Aa (Ae ?_)
   refine AT ?_
   refine By (fun f st' => ∃ (v4 : Bool), Hi p0 p1 p2 p3 s_Suses_stmt n v4 = some r ∧ f 2 = (.ptr (st.length + 0) 0) ∧ f 3 = (.ptr (st.length + 1) 0) ∧ f 9 = (.d (.int .i64 p3.Op)) ∧ f 10 = (.d (.bool v4)) ∧ st' = st ++ [(.box [(.map x0), (.map x1), (.map x2)]), (.box [(.d (.int .i64 p3.Op)), (.d (.str p3.Name)), (.d (.str p3.Src)), (.d (.int .i64 p3.N)), (.d (.sl (List.map rS p3.Cols))), (.d (.sl (List.map TE.row p3.Exprs))), (.d (.sl (List.map TS.row p3.Body))), (.d (.sl (List.map TS.row p3.Else)))])]) ?_ ?_
   · refine Al (Af ?_)
     unfold PP
     refine As (e_t eh) e_c (BK ?_)
     refine Ab (e_t eh) (Aa (Ae ?_))
     refine AC (e_t eh) hr (fun hr => ?_) (fun hr => ?_)
     · refine AO (Ae ?_)
       exact ⟨(decide (p3.Op = (4 : Int))), hr, (Ad rfl (em rfl eh)), (Ad rfl eh), (Ac rfl eh), eh, rfl⟩
     refine Af ?_
     unfold Ps
     refine As (e_t (Ac rfl eh)) e_c (BK ?_)
     refine Ab (e_t eh) (Aa (Ae ?_))
     exact ⟨(decide (p3.Op = (5 : Int))), hr, (Ad rfl (Ac rfl (em rfl eh))), (Ad rfl (Ac rfl eh)), (Ad rfl eh), eh, rfl⟩
   rintro f st' ⟨v4, hr, h2, h3, h9, h10, rfl⟩
   rw [Hi] at hr
   refine AC (e_t h10) hr (fun hr => ?_) (fun hr => ?_)
   · refine HX (k := 2) rfl rfl ?_
     unfold Pq
     refine Ah (R := []) rfl rfl (AB (e_t h2) (by exact rfl) (Aa ?_))
     refine Ah rfl (BL (e_t eh)) (Ap (e_t eh) ((Am rfl 0).trans rfl) (by exact rfl) (Aa ?_))
     refine Ah (R := []) rfl rfl (AB (e_t (Ac rfl h3)) (by exact rfl) (Aa ?_))
     refine Ah rfl (BL (e_t eh)) (Ap (e_t eh) ((Am rfl 1).trans rfl) (by exact rfl) (Aa ?_))
     refine Ah (R := []) rfl rfl (AB (e_t (Ad rfl h2)) (by exact rfl) (Aa ?_))
     refine Ah rfl (BL (e_t eh)) (Ap (e_t eh) ((Am rfl 0).trans rfl) (by exact rfl) (Aa ?_))
     refine Ah (R := []) rfl rfl (AB (e_t (Ad rfl (Ac rfl h3))) (by exact rfl) (Aa ?_))
     refine Ah rfl (BL (e_t eh)) (Ap (e_t eh) ((Am rfl 1).trans rfl) (by exact rfl) (Aa ?_))
     refine Al8 (e_t (Ad rfl (Ac rfl eh))) (e_t (Ad rfl eh)) e_c (GL hx_x0) (fun _ => ((Oi hx_x0).trans (congrArg (· ++ _) rfl))) hr (fun v5 hr => ?_)
     refine Al8 (e_t (Ac rfl eh)) (e_t eh) e_c (GL (Bd hx_x1 hne_x0_x1)) (fun _ => ((Oi (Bd hx_x1 hne_x0_x1)).trans (congrArg (· ++ _) rfl))) hr (fun v6 hr => ?_)
     refine BJ ?_
     refine ⟨by simp [B2, okPairs, BZ, Ga, YB hx_x0, Aa5 hx_x0, Zc hx_x0, Z6 hx_x0, YB hx_x1, Aa5 hx_x1, Zc hx_x1, Z6 hx_x1, YB hx_x2, Aa5 hx_x2, Zc hx_x2, Z6 hx_x2, IX hne_x0_x1, H8 hne_x0_x1, IX hne_x0_x2, H8 hne_x0_x2, IX hne_x1_x2, H8 hne_x1_x2], ?_⟩
     refine BB ?_
     refine Ae ?_
     exact ⟨v5, v6, p2, hr, (Ad rfl (Ad rfl h2)), (Ad rfl (Ad rfl h3)), (congrArg (· ++ _) ((HQ (Bd (Bd hx_x2 hne_x0_x2) hne_x1_x2)).symm.trans rfl))⟩
   refine Al (Af ?_)
   unfold PT
   refine As (e_t h9) e_c (BK ?_)
   refine Ab (e_t eh) (Aa (Ae ?_))
   refine AC (e_t eh) hr (fun hr => ?_) (fun hr => ?_)
   · refine Af ?_
     unfold PL
     refine AB (e_t (Ac rfl h2)) (by exact rfl) ?_
     refine Ap (e_t eh) ((Am rfl 0).trans rfl) (by exact rfl) ?_
     refine AB (e_t (Ad rfl h3)) (by exact rfl) ?_
     refine Ap (e_t eh) ((Am rfl 1).trans rfl) (by exact rfl) ?_
     refine RU (e_t (Ac rfl eh)) (e_t eh) e_c (GL hx_x0) (fun _ => ((Oi hx_x0).trans (congrArg (· ++ _) rfl))) hr (fun v7 hr => ?_)
     refine Aa ?_
     refine BB ?_
     refine Ae ?_
     exact ⟨v7, p1, p2, hr, (Ad rfl (Ac rfl h2)), (Ad rfl (Ac rfl h3)), (congrArg (· ++ _) (((HQ (Bd hx_x1 hne_x0_x1)).symm.trans rfl).trans ((HQ (Bd (Bd hx_x2 hne_x0_x2) hne_x1_x2)).symm.trans rfl)))⟩
   refine Al (Af ?_)
   unfold PY
   refine As (e_t (Ac rfl h9)) e_c (BK ?_)
   refine Ab (e_t eh) (Aa (Ae ?_))
   refine AC (e_t eh) hr (fun hr => ?_) (fun hr => ?_)
   · refine Af ?_
     unfold PU
     refine AB (e_t (Ad rfl h2)) (by exact rfl) ?_
     refine Ap (e_t eh) ((Am rfl 0).trans rfl) (by exact rfl) ?_
     refine AB (e_t (Ad rfl (Ac rfl h3))) (by exact rfl) ?_
     refine Ap (e_t eh) ((Am rfl 1).trans rfl) (by exact rfl) ?_
     refine RU (e_t (Ac rfl eh)) (e_t eh) e_c (GL hx_x1) (fun _ => ((Oi hx_x1).trans (congrArg (· ++ _) rfl))) hr (fun v8 hr => ?_)
     refine Aa ?_
     refine BB ?_
     refine Ae ?_
     exact ⟨p0, v8, p2, hr, (Ad rfl (Ad rfl h2)), (Ad rfl (Ad rfl h3)), (congrArg (· ++ _) (((HQ (Bd hx_x0 (B6 hne_x0_x1))).symm.trans (I5 (B6 hne_x0_x1) rfl)).trans ((HQ (Bd (Bd hx_x2 hne_x0_x2) hne_x1_x2)).symm.trans rfl)))⟩
   refine Al (Af ?_)
   unfold PH
   refine As (e_t (Ad rfl h9)) e_c (BK ?_)
   refine Ab (e_t eh) (Aa (Ae ?_))
   refine AC (e_t eh) hr (fun hr => ?_) (fun hr => ?_)
   rotate_left
   · refine AO ?_
     refine BB ?_
     refine Ae ?_
     exact ⟨p0, p1, p2, hr, (Ad rfl (Ac rfl h2)), (Ad rfl (Ac rfl h3)), (congrArg (· ++ _) ((((HQ hx_x0).symm.trans rfl).trans ((HQ (Bd hx_x1 hne_x0_x1)).symm.trans rfl)).trans ((HQ (Bd (Bd hx_x2 hne_x0_x2) hne_x1_x2)).symm.trans rfl)))⟩
   refine Af ?_
   unfold NZ
   refine AB (e_t (Ad rfl (Ac rfl h2))) (by exact rfl) ?_
   refine Ap (e_t eh) ((Am rfl 0).trans rfl) (by exact rfl) ?_
   refine AB (e_t (Ad rfl (Ad rfl h3))) (by exact rfl) ?_
   refine Ap (e_t eh) ((Am rfl 1).trans rfl) (by exact rfl) ?_
   refine RU (e_t (Ac rfl eh)) (e_t eh) e_c (GL hx_x2) (fun _ => ((Oi hx_x2).trans (congrArg (· ++ _) rfl))) hr (fun v9 hr => ?_)
   refine Aa ?_
   refine BB ?_
   refine Ae ?_
   exact ⟨p0, p1, v9, hr, (Ak rfl (Ac rfl h2)), (Ak rfl (Ac rfl h3)), (congrArg (· ++ _) (((HQ (Bd hx_x0 (B6 hne_x0_x2))).symm.trans (I5 (B6 hne_x0_x2) rfl)).trans ((HQ (Bd (Bd hx_x1 hne_x0_x1) (B6 hne_x1_x2))).symm.trans (I5 (B6 hne_x1_x2) rfl))))⟩
 rintro f st' ⟨v10, v11, v12, hr, h2, h3, rfl⟩
 rw [d_Suses_stmt_j0] at hr
 refine By (fun f st' => ∃ (v17 : (List ByteArray)), EV p3 s_Suses_stmt n v11 v12 v17 = some r ∧ f 2 = (.ptr (st.length + 0) 0) ∧ f 3 = (.ptr (st.length + 1) 0) ∧ st' = (List.set (List.set (List.set st x0 (.map AD AV v17)) x1 (.map AD AV v11)) x2 (.map AD AV v12)) ++ [(.box [(.map x0), (.map x1), (.map x2)]), (.box [(.d (.int .i64 p3.Op)), (.d (.str p3.Name)), (.d (.str p3.Src)), (.d (.int .i64 p3.N)), (.d (.sl (List.map rS p3.Cols))), (.d (.sl (List.map TE.row p3.Exprs))), (.d (.sl (List.map TS.row p3.Body))), (.d (.sl (List.map TS.row p3.Else)))])]) ?_ ?_
 · refine Al (Af ?_)
   unfold OX
   refine AB (e_t h3) (by exact rfl) ?_
   refine Ap (e_t eh) ((Am (AY (AY (AY rfl))) 1).trans rfl) (by exact rfl) ?_
   refine Bh (row := TE.row) (AP (e_t eh) Bt) ?_
   refine Ab e_c (Aa (Ae ?_))
   refine AT ?_
   refine BX (fun m f st' => ∃ (v13 : (List ByteArray)), ∃ (v14 : Int), C5 p3 s_Suses_stmt n v11 v12 m v13 v14 = some r ∧ f 2 = (.ptr (st.length + 0) 0) ∧ f 3 = (.ptr (st.length + 1) 0) ∧ f 40 = (.d (.sl (List.map TE.row p3.Exprs))) ∧ f 41 = (.d (.int .i64 (p3.Exprs.length : Int))) ∧ f 42 = (.d (.int .i64 v14)) ∧ st' = (List.set (List.set (List.set st x0 (.map AD AV v13)) x1 (.map AD AV v11)) x2 (.map AD AV v12)) ++ [(.box [(.map x0), (.map x1), (.map x2)]), (.box [(.d (.int .i64 p3.Op)), (.d (.str p3.Name)), (.d (.str p3.Src)), (.d (.int .i64 p3.N)), (.d (.sl (List.map rS p3.Cols))), (.d (.sl (List.map TE.row p3.Exprs))), (.d (.sl (List.map TS.row p3.Body))), (.d (.sl (List.map TS.row p3.Else)))])]) n (Ghost.refl _) ⟨v10, (0 : Int), hr, (Ad rfl h2), (Ad rfl h3), (Ac rfl eh), (em rfl eh), eh, rfl⟩ ?_
   rintro m f st' ⟨v13, v14, hr, h2, h3, h40, h41, h42, rfl⟩
   cases m with
   | zero => cases hr
   | succ m_1 =>
     rw [C5] at hr
     generalize hrec_1 : C5 p3 s_Suses_stmt n v11 v12 m_1 = q1 at hr
     rw [H1] at hr
     unfold NY
     refine Al (Af ?_)
     unfold NX
     refine As (e_t h42) (e_t h41) (CM ?_)
     refine Aa (Ae (Al ?_))
     refine AC (e_t eh) hr (fun hr => ?_) (fun hr => ?_)
     rotate_left
     · refine CG ?_
       refine AW ?_
       refine AW ?_
       refine DF ?_
       refine Ae ?_
       exact ⟨v13, hr, (em rfl h2), (em rfl h3), rfl⟩
     refine AO (Ae (Al ?_))
     refine AT ?_
     refine Al (Af ?_)
     unfold Oc
     refine Br (row := TE.row) (AP (e_t (em rfl h40)) Bt) (e_t (em rfl h42)) hr TE.row_eq (fun _ => rfl) (fun v15 hr => ?_)
     refine Dc (e_t eh) (Nat.le_of_ble_eq_true rfl) (by exact rfl) ?_
     refine Cn (k := 2) (AY (AY (AY rfl))) rfl ?_
     refine Bl (e_t eh) ((Am (AY (AY (AY rfl))) 2).trans rfl) (e_t (em rfl eh)) Bf rfl (Nat.le_of_ble_eq_true rfl) (by exact rfl) (cells' := [(.d (.int .i64 v15.Op)), (.d (.int .i64 v15.N)), (.d (.str v15.S)), (.d (.str v15.Name)), (.d (.str v15.Src)), (.d (.sl (List.map TE.row v15.Args)))]) (by exact rfl) (Bo (AY (AY (AY rfl))) _ _) ?_
     refine Aa (Ae (Af ?_))
     unfold OI
     refine Bw (e_t (Ad rfl h2)) ((Am (AY (AY (AY rfl))) 0).trans rfl) (Nat.le_of_ble_eq_true rfl) (by exact rfl) ?_
     refine Bw (e_t (em rfl eh)) ((Am (AY (AY (AY rfl))) 2).trans rfl) (Nat.le_of_ble_eq_true rfl) (by exact rfl) ?_
     obtain ⟨v16, hc_v16, hr⟩ := bind_some hr
     refine AJ (Ar (e_t (em rfl eh)) (Bx (Aq Qa (Aq Qa (Aq Qa B3)))) (Ar (e_t eh) (Bx (Aq f_d (Aq f_d (Aq f_d (Aq f_d (Aq f_d (Aq f_d B3))))))) AM)) ?_
     refine An3 n v13 v11 v12 v15 hc_v16 (GL (Bd (Bd (CT hx_x0) (B6 hne_x0_x1)) (B6 hne_x0_x2))) (GL (Bd (CT (Bd hx_x1 hne_x0_x1)) (B6 hne_x1_x2))) (GL (CT (Bd (Bd hx_x2 hne_x0_x2) hne_x1_x2))) hne_x0_x1 hne_x0_x2 ((Oi (Bd (Bd (CT hx_x0) (B6 hne_x0_x1)) (B6 hne_x0_x2))).trans (congrArg (· ++ _) (I5 (B6 hne_x0_x2) (I5 (B6 hne_x0_x1) Ok)))) ?_
     refine Aa ?_
     refine BB ?_
     refine Ae (Af ?_)
     unfold OW
     refine As (e_t (Ad rfl (Ac rfl (em rfl h42)))) e_c (BU ?_)
     refine Ab (e_t eh) (Aa (Ae ?_))
     exact ⟨m_1, _, Nat.lt_succ_self m_1, Ghost.cut _ (st.length + 2) (Nat.le_add_right _ _), v16, (IntKind.wrap .i64 (v14 + (1 : Int))), (by rw [hrec_1]; exact hr), ((congrArg (cutV _) (Ak rfl (em rfl h2))).trans (by simp [cutV, AK])), ((congrArg (cutV _) (Ak rfl (em rfl h3))).trans (by simp [cutV, AK])), ((congrArg (cutV _) (Ak rfl (em rfl h40))).trans (v_d)), ((congrArg (cutV _) (Ak rfl (em rfl h41))).trans (v_d)), ((congrArg (cutV _) eh).trans (v_d)), (EN (l0 := [(.box [(.map x0), (.map x1), (.map x2)]), (.box [(.d (.int .i64 p3.Op)), (.d (.str p3.Name)), (.d (.str p3.Src)), (.d (.int .i64 p3.N)), (.d (.sl (List.map rS p3.Cols))), (.d (.sl (List.map TE.row p3.Exprs))), (.d (.sl (List.map TS.row p3.Body))), (.d (.sl (List.map TS.row p3.Else)))])]) (l1 := _) (WF.setMap (WF.setMap (WF.setMap hwf))) (AY (AY (AY rfl))) rfl (by simp [KH, cutV, AK, AK.belowL, Pp hx_x0, Pp hx_x1, Pp hx_x2]))⟩
 rintro f st' ⟨v17, hr, h2, h3, rfl⟩
 rw [EV] at hr
 refine Al ?_
 refine HX (k := 2) (AY (AY (AY rfl))) rfl ?_
 unfold Oh
 refine Ah (R := []) rfl rfl (AB (e_t h3) (by exact rfl) (Aa ?_))
 refine Ah rfl (BL (e_t eh)) (Ap (e_t eh) ((Am (AY (AY (AY rfl))) 1).trans rfl) (by exact rfl) (Aa ?_))
 obtain ⟨v18, hc_v18, hr⟩ := bind_some hr
 refine AJ9 (k := 2) (AY (AY (AY rfl))) (by exact rfl) (Ar (e_t eh) AF AM) (Cf (e_t eh) (by exact rfl) FL) (fun S => JN p3.Body hc_v18) ?_
 refine Ah (R := []) rfl rfl (AB (e_t (Ac rfl (em rfl h3))) (by exact rfl) (Aa ?_))
 refine Ah rfl (BL (e_t eh)) (Ap (e_t eh) ((Am (AY (AY (AY rfl))) 1).trans rfl) (by exact rfl) (Aa ?_))
 refine AV2 (row := TS.row) (e_t eh) Bt TS.row_eq (fun _ => rfl) (e_t (Ac rfl eh)) ((Am (AY (AY (AY rfl))) 2).trans rfl) (fun _ => (Bo (AY (AY (AY rfl))) _ _)) hr (fun v19 hr => ?_)
 refine Ah rfl (AS2 (e_t eh)) (Bh (row := TS.row) (AP (e_t eh) (IS ((Am (AY (AY (AY rfl))) 2).trans rfl))) (Aa ?_))
 refine Ah (R := []) rfl rfl (Ab e_c (Aa ?_))
 refine BJ ?_
 refine ⟨by simp [B2, okPairs, BZ, Ga, YB hx_x0, Aa5 hx_x0, Zc hx_x0, Z6 hx_x0, YB hx_x1, Aa5 hx_x1, Zc hx_x1, Z6 hx_x1, YB hx_x2, Aa5 hx_x2, Zc hx_x2, Z6 hx_x2, IX hne_x0_x1, H8 hne_x0_x1, IX hne_x0_x2, H8 hne_x0_x2, IX hne_x1_x2, H8 hne_x1_x2], ?_⟩
 refine Ae ?_
 refine AT ?_
 refine BX (fun m f st' => ∃ (v20 : (List ByteArray)), ∃ (v21 : (List ByteArray)), ∃ (v22 : (List ByteArray)), ∃ (v23 : Int), C7 s_Suses_stmt v19 m v20 v21 v22 v23 = some r ∧ f 2 = (.ptr (st.length + 0) 0) ∧ f 55 = (.own (st.length + 2) 2) ∧ f 56 = (.d (.int .i64 (v19.length : Int))) ∧ f 57 = (.d (.int .i64 v23)) ∧ st' = (List.set (List.set (List.set st x0 (.map AD AV v20)) x1 (.map AD AV v21)) x2 (.map AD AV v22)) ++ [(.box [(.map x0), (.map x1), (.map x2)]), (.box [(.d (.int .i64 p3.Op)), (.d (.str p3.Name)), (.d (.str p3.Src)), (.d (.int .i64 p3.N)), (.d (.sl (List.map rS p3.Cols))), (.d (.sl (List.map TE.row p3.Exprs))), (.d (.sl (List.map TS.row p3.Body))), (.d (.sl (List.map TS.row p3.Else)))]), (.row AU 2 (List.map TS.row v19)), .fresh]) n (Ghost.refl _) ⟨v17, v11, v12, (0 : Int), hr, (Ad rfl (Ad rfl h2)), (Ac rfl eh), (em rfl eh), eh, rfl⟩ ?_
 rintro m f st' ⟨v20, v21, v22, v23, hr, h2, h55, h56, h57, rfl⟩
 cases m with
 | zero => cases hr
 | succ m_0 =>
   rw [C7] at hr
   generalize hrec_0 : C7 s_Suses_stmt v19 m_0 = q0 at hr
   rw [Ie] at hr
   unfold NP
   refine Al (Af ?_)
   unfold OD
   refine As (e_t h57) (e_t h56) (CM ?_)
   refine Aa (Ae (Al ?_))
   refine AC (e_t eh) hr (fun hr => ?_) (fun hr => ?_)
   rotate_left
   · refine CG ?_
     refine AW ?_
     refine AW ?_
     refine DF ?_
     cases hr
     exact AA2 AH AM8 (Aq6 (WF.setMap (WF.setMap (WF.setMap hwf))) (AY (AY (AY rfl)))) h
   refine AO (Ae (Al ?_))
   refine AT ?_
   refine Al (Af ?_)
   unfold NR
   refine Br (row := TS.row) (AP (e_t (em rfl h55)) (IS ((Am (AY (AY (AY rfl))) 2).trans rfl))) (e_t (em rfl h57)) hr TS.row_eq (fun _ => rfl) (fun v24 hr => ?_)
   refine Dc (e_t eh) (Nat.le_of_ble_eq_true rfl) (by exact rfl) ?_
   refine Cn (k := 4) (AY (AY (AY rfl))) rfl ?_
   refine Bl (e_t eh) ((Am (AY (AY (AY rfl))) 4).trans rfl) (e_t (em rfl eh)) Bf rfl (Nat.le_of_ble_eq_true rfl) (by exact rfl) (cells' := [(.d (.int .i64 v24.Op)), (.d (.str v24.Name)), (.d (.str v24.Src)), (.d (.int .i64 v24.N)), (.d (.sl (List.map rS v24.Cols))), (.d (.sl (List.map TE.row v24.Exprs))), (.d (.sl (List.map TS.row v24.Body))), (.d (.sl (List.map TS.row v24.Else)))]) (by exact rfl) (Bo (AY (AY (AY rfl))) _ _) ?_
   refine Aa (Ae (Af ?_))
   unfold NK
   refine Bw (e_t (Ad rfl h2)) ((Am (AY (AY (AY rfl))) 0).trans rfl) (Nat.le_of_ble_eq_true rfl) (by exact rfl) ?_
   refine Bw (e_t (em rfl eh)) ((Am (AY (AY (AY rfl))) 4).trans rfl) (Nat.le_of_ble_eq_true rfl) (by exact rfl) ?_
   obtain ⟨v25, hc_v25, hr⟩ := bind_some hr
   refine AJ (Ar (e_t (em rfl eh)) (Bx (Aq Qa (Aq Qa (Aq Qa B3)))) (Ar (e_t eh) (Bx (Aq f_d (Aq f_d (Aq f_d (Aq f_d (Aq f_d (Aq f_d (Aq f_d (Aq f_d B3))))))))) AM)) ?_
   refine H_s_Suses_stmt v20 v21 v22 v24 hc_v25 (GL (Bd (Bd (CT hx_x0) (B6 hne_x0_x1)) (B6 hne_x0_x2))) (GL (Bd (CT (Bd hx_x1 hne_x0_x1)) (B6 hne_x1_x2))) (GL (CT (Bd (Bd hx_x2 hne_x0_x2) hne_x1_x2))) hne_x0_x1 hne_x0_x2 hne_x1_x2 ((congrArg (List.set · _ _) ((congrArg (List.set · _ _) ((Oi (Bd (Bd (CT hx_x0) (B6 hne_x0_x1)) (B6 hne_x0_x2))).trans (congrArg (· ++ _) (I5 (B6 hne_x0_x2) (I5 (B6 hne_x0_x1) Ok))))).trans ((Oi (Bd (CT (Bd hx_x1 hne_x0_x1)) (B6 hne_x1_x2))).trans (congrArg (· ++ _) (I5 (B6 hne_x1_x2) Ok))))).trans ((Oi (CT (Bd (Bd hx_x2 hne_x0_x2) hne_x1_x2))).trans (congrArg (· ++ _) Ok))) ?_
   refine Aa ?_
   refine BB ?_
   refine Ae (Af ?_)
   unfold ON
   refine As (e_t (Ad rfl (Ac rfl (em rfl h57)))) e_c (BU ?_)
   refine Ab (e_t eh) (Aa (Ae ?_))
   exact ⟨m_0, _, Nat.lt_succ_self m_0, Ghost.cut _ (st.length + 4) (Nat.le_add_right _ _), v25.1, v25.2.1, v25.2.2, (IntKind.wrap .i64 (v23 + (1 : Int))), (by rw [hrec_0]; exact hr), ((congrArg (cutV _) (Ak rfl (em rfl h2))).trans (by simp [cutV, AK])), ((congrArg (cutV _) (Ak rfl (em rfl h55))).trans (by simp [cutV, AK])), ((congrArg (cutV _) (Ak rfl (em rfl h56))).trans (v_d)), ((congrArg (cutV _) eh).trans (v_d)), (EN (l0 := [(.box [(.map x0), (.map x1), (.map x2)]), (.box [(.d (.int .i64 p3.Op)), (.d (.str p3.Name)), (.d (.str p3.Src)), (.d (.int .i64 p3.N)), (.d (.sl (List.map rS p3.Cols))), (.d (.sl (List.map TE.row p3.Exprs))), (.d (.sl (List.map TS.row p3.Body))), (.d (.sl (List.map TS.row p3.Else)))]), (.row AU 2 (List.map TS.row v19)), .fresh]) (l1 := _) (WF.setMap (WF.setMap (WF.setMap hwf))) (AY (AY (AY rfl))) rfl (by simp [KH, cutV, AK, AK.belowL, Pp hx_x0, Pp hx_x1, Pp hx_x2]))⟩
def Bj : Nat → (List ByteArray) → (List ByteArray) → (List ByteArray) → TS → Option ((List ByteArray) × (List ByteArray) × (List ByteArray))
 | 0, _, _, _, _ => none
 | n + 1, p0, p1, p2, p3 => HG (Bj n) n p0 p1 p2 p3
theorem SB : ∀ n : Nat, (∀ (p0 : (List ByteArray)) (p1 : (List ByteArray)) (p2 : (List ByteArray)) (p3 : TS) {r : ((List ByteArray) × (List ByteArray) × (List ByteArray))}, Bj n p0 p1 p2 p3 = some r → ∀ {st : List Content} {x0 : Nat} {x1 : Nat} {x2 : Nat} (hx_x0 : st[x0]? = some (.map AD AV p0)) (hx_x1 : st[x1]? = some (.map AD AV p1)) (hx_x2 : st[x2]? = some (.map AD AV p2)) (hne_x0_x1 : (x0 == x1) = false) (hne_x0_x2 : (x0 == x2) = false) (hne_x1_x2 : (x1 == x2) = false) {st' : List Content} (hst : (List.set (List.set (List.set st x0 (.map AD AV r.1)) x1 (.map AD AV r.2.1)) x2 (.map AD AV r.2.2)) = st') {K : PV → List Content → Prop} (h : K (.tup []) st'), Av PR GY [(.agg [(.map x0), (.map x1), (.map x2)]), (.agg [(.d (.int .i64 p3.Op)), (.d (.str p3.Name)), (.d (.str p3.Src)), (.d (.int .i64 p3.N)), (.d (.sl (List.map rS p3.Cols))), (.d (.sl (List.map TE.row p3.Exprs))), (.d (.sl (List.map TS.row p3.Body))), (.d (.sl (List.map TS.row p3.Else)))])] st K)
 | 0 => fun _ _ _ _ _ hr => (by rw [Bj] at hr; cases hr)
 | n + 1 => fun p0 p1 p2 p3 _ hr _ _ _ _ hx_x0 hx_x1 hx_x2 hne_x0_x1 hne_x0_x2 hne_x1_x2 _ hst _ h => Ah7 (Bj n) n p0 p1 p2 p3 (SB n) (by rw [Bj] at hr; exact hr) hx_x0 hx_x1 hx_x2 hne_x0_x1 hne_x0_x2 hne_x1_x2 hst h
theorem Ao3 (n : Nat) (p0 : (List ByteArray)) (p1 : (List ByteArray)) (p2 : (List ByteArray)) (p3 : TS) {r : ((List ByteArray) × (List ByteArray) × (List ByteArray))} (hr : Bj n p0 p1 p2 p3 = some r) {x0 : Nat} {x1 : Nat} {x2 : Nat} (hx_x0 : st[x0]? = some (.map AD AV p0)) (hx_x1 : st[x1]? = some (.map AD AV p1)) (hx_x2 : st[x2]? = some (.map AD AV p2)) (hne_x0_x1 : (x0 == x1) = false) (hne_x0_x2 : (x0 == x2) = false) (hne_x1_x2 : (x1 == x2) = false) {st' : List Content} (hst : (List.set (List.set (List.set st x0 (.map AD AV r.1)) x1 (.map AD AV r.2.1)) x2 (.map AD AV r.2.2)) = st') {K : PV → List Content → Prop} (h : K (.tup []) st') : Av PR GY [(.agg [(.map x0), (.map x1), (.map x2)]), (.agg [(.d (.int .i64 p3.Op)), (.d (.str p3.Name)), (.d (.str p3.Src)), (.d (.int .i64 p3.N)), (.d (.sl (List.map rS p3.Cols))), (.d (.sl (List.map TE.row p3.Exprs))), (.d (.sl (List.map TS.row p3.Body))), (.d (.sl (List.map TS.row p3.Else)))])] st K := (SB n) p0 p1 p2 p3 hr hx_x0 hx_x1 hx_x2 hne_x0_x1 hne_x0_x2 hne_x1_x2 hst h
def MB (p0 : TP) (n : Nat) (q0 : (List ByteArray) → (List ByteArray) → (List ByteArray) → Int → Option ((List ByteArray) × (List ByteArray) × (List ByteArray))) (v2 : (List ByteArray)) (v3 : (List ByteArray)) (v4 : (List ByteArray)) (v5 : Int) : Option ((List ByteArray) × (List ByteArray) × (List ByteArray)) :=
 (bif (decide (v5 < (p0.Body.length : Int))) then ((Dd p0.Body v5).bind fun v6 => ((Bj n v2 v3 v4 v6).bind fun v7 => q0 v7.1 v7.2.1 v7.2.2 (IntKind.wrap .i64 (v5 + (1 : Int))))) else some (v2, v3, v4))
def Gh (p0 : TP) (n : Nat) : Nat → (List ByteArray) → (List ByteArray) → (List ByteArray) → Int → Option ((List ByteArray) × (List ByteArray) × (List ByteArray))
 | 0, _, _, _, _ => none
 | m + 1, v2, v3, v4, v5 => MB p0 n (Gh p0 n m) v2 v3 v4 v5
def Kt (n : Nat) (p0 : TP) : Option ((List ByteArray) × (List ByteArray) × (List ByteArray)) :=
 ((Je n p0).bind fun v1 => (bif v1 then (Gh p0 n n ([]) ([]) ([]) (0 : Int)) else some ([], [], [])))
set_option maxRecDepth 100000 in
set_option maxHeartbeats 4000000 in
theorem Aq4 (n : Nat) (p0 : TP) {r : ((List ByteArray) × (List ByteArray) × (List ByteArray))} (hr : Kt n p0 = some r) {m : Nat} (hm : st.length = m) {st' : List Content} (hst : st ++ [.dead, (.box [(.map (m + 2)), (.map (m + 3)), (.map (m + 4))]), (.map AD AV r.1), (.map AD AV r.2.1), (.map AD AV r.2.2)] = st') {K : PV → List Content → Prop} (h : K (.agg [(.map (m + 2)), (.map (m + 3)), (.map (m + 4))]) st') : Av PR V5 [(.agg [(.d (.str p0.Name)), (.d (.str p0.From)), (.d (.str p0.At)), (.d (.int .i64 p0.Fuel)), (.d (.sl (List.map T_api_Column.row p0.Params))), (.d (.sl (List.map TS.row p0.Body)))])] st K := by
 refine Av.of_ownG AT3 (Nat.le_of_ble_eq_true rfl) fun hwf => ?_
 rw [B5]
 refine AQ ?_
 unfold AG5
 rw [Kt] at hr
 refine Al (Af ?_)
 unfold Z5
 refine Gq (k := 0) rfl rfl (e_t eh) Bf (by exact rfl) ?_
 refine Cn (k := 1) rfl rfl ?_
 refine Aa (Ae (Al (Af ?_)))
 unfold Z3
 refine Ap4 (k := 2) rfl rfl ?_
 refine Ap4 (k := 3) rfl rfl ?_
 refine Ap4 (k := 4) rfl rfl ?_
 refine II (cs := [(.map (st.length + 2)), (.map (st.length + 3)), (.map (st.length + 4))]) (Co (e_t (Ac rfl eh)) rfl rfl (Nat.le_of_ble_eq_true rfl) (by exact rfl) (Co (e_t (em rfl eh)) rfl rfl (Nat.le_of_ble_eq_true rfl) (by exact rfl) (Co (e_t eh) rfl rfl (Nat.le_of_ble_eq_true rfl) (by exact rfl) KW))) (Cm (e_t (Ac rfl eh)) rfl (by exact rfl) (Cm (e_t (em rfl eh)) rfl (by exact rfl) (Cm (e_t eh) rfl (by exact rfl) KQ))) ?_
 refine Cn (k := 5) rfl rfl ?_
 refine Bl (e_t eh) ((Am rfl 5).trans rfl) (e_t (em rfl eh)) Bf rfl (Nat.le_of_ble_eq_true rfl) (by exact rfl) (cells' := [(.map (st.length + 2)), (.map (st.length + 3)), (.map (st.length + 4))]) (by exact rfl) (Bo rfl _ _) ?_
 refine Aa (Ae (Al (Al (Af ?_))))
 unfold Yz
 refine Bw (e_t (Ad rfl (Ac rfl eh))) ((Am rfl 0).trans rfl) (Nat.le_of_ble_eq_true rfl) (by exact rfl) ?_
 obtain ⟨v1, hc_v1, hr⟩ := bind_some hr
 refine AJ (Ar (e_t eh) (Bx (Aq f_d (Aq f_d (Aq f_d (Aq f_d (Aq f_d (Aq f_d B3))))))) AM) ?_
 refine Tn n p0 hc_v1 ?_
 refine Aa (Ae ?_)
 refine AC (e_t eh) hr (fun hr => ?_) (fun hr => ?_)
 rotate_left
 · refine AO (Ae (Al (Af ?_)))
   unfold ST
   refine Bw (e_t (Ac rfl eh)) ((Am rfl 5).trans rfl) (Nat.le_of_ble_eq_true rfl) (by exact rfl) ?_
   refine Bl (e_t (Ad rfl (Ad rfl eh))) ((Am rfl 1).trans rfl) (e_t eh) Bf rfl (Nat.le_of_ble_eq_true rfl) (by exact rfl) (cells' := [(.map (st.length + 2)), (.map (st.length + 3)), (.map (st.length + 4))]) (by exact rfl) (Bo rfl _ _) ?_
   refine Aa (Ae (AI ?_))
   cases hr
   subst hm
   refine ⟨_, (AF2 0 rfl), ?_⟩
   exact ⟨_, st.length + 5, (G9 (Ad rfl (Ad rfl eh)) ((Am rfl 1).trans rfl) (Nat.le_of_ble_eq_true rfl) (by exact rfl) AH), Nat.le_add_right _ _, AF9 (by simp [Hg, cutV, AK, AK.belowL]) (AF6 (l0 := [.dead, (.box [(.map (st.length + 2)), (.map (st.length + 3)), (.map (st.length + 4))]), (.map AD AV ([])), (.map AD AV ([])), (.map AD AV ([]))]) (l1 := _) hwf rfl rfl (by simp [KH, cutV, AK, AK.belowL]) hst) h⟩
 refine Al (Af ?_)
 unfold Ac6
 refine AB (e_t (Ad rfl (Ad rfl eh))) (by exact rfl) ?_
 refine Ap (e_t eh) ((Am rfl 0).trans rfl) (by exact rfl) ?_
 refine Bh (row := TS.row) (AP (e_t eh) Bt) ?_
 refine Ab e_c (Aa (Ae ?_))
 refine AT ?_
 refine BX (fun m f st' => ∃ (v2 : (List ByteArray)), ∃ (v3 : (List ByteArray)), ∃ (v4 : (List ByteArray)), ∃ (v5 : Int), Gh p0 n m v2 v3 v4 v5 = some r ∧ f 2 = (.ptr (st.length + 1) 0) ∧ f 3 = (.ptr (st.length + 5) 0) ∧ f 13 = (.d (.sl (List.map TS.row p0.Body))) ∧ f 14 = (.d (.int .i64 (p0.Body.length : Int))) ∧ f 15 = (.d (.int .i64 v5)) ∧ st' = st ++ [(.box [(.d (.str p0.Name)), (.d (.str p0.From)), (.d (.str p0.At)), (.d (.int .i64 p0.Fuel)), (.d (.sl (List.map T_api_Column.row p0.Params))), (.d (.sl (List.map TS.row p0.Body)))]), (.box [.nilm, .nilm, .nilm]), (.map AD AV v2), (.map AD AV v3), (.map AD AV v4), (.box [(.map (st.length + 2)), (.map (st.length + 3)), (.map (st.length + 4))])]) n (Ghost.refl _) ⟨[], [], [], (0 : Int), hr, (Ak rfl (Ac rfl (em rfl eh))), (Ad rfl (Ac rfl eh)), (Ac rfl eh), (em rfl eh), eh, rfl⟩ ?_
 rintro m f st' ⟨v2, v3, v4, v5, hr, h2, h3, h13, h14, h15, rfl⟩
 cases m with
 | zero => cases hr
 | succ m_0 =>
   rw [Gh] at hr
   generalize hrec_0 : Gh p0 n m_0 = q0 at hr
   rw [MB] at hr
   unfold YC
   refine Al (Af ?_)
   unfold Ab3
   refine As (e_t h15) (e_t h14) (CM ?_)
   refine Aa (Ae (Al ?_))
   refine AC (e_t eh) hr (fun hr => ?_) (fun hr => ?_)
   rotate_left
   · refine CG ?_
     refine AW ?_
     refine AW ?_
     refine DF ?_
     refine Ae (Al (Af ?_))
     unfold ST
     refine Bw (e_t (em rfl h3)) ((Am rfl 5).trans rfl) (Nat.le_of_ble_eq_true rfl) (by exact rfl) ?_
     refine Bl (e_t (Ac rfl h2)) ((Am rfl 1).trans rfl) (e_t eh) Bf rfl (Nat.le_of_ble_eq_true rfl) (by exact rfl) (cells' := [(.map (st.length + 2)), (.map (st.length + 3)), (.map (st.length + 4))]) (by exact rfl) (Bo rfl _ _) ?_
     refine Aa (Ae (AI ?_))
     cases hr
     subst hm
     refine ⟨_, (AF2 0 rfl), ?_⟩
     exact ⟨_, st.length + 5, (G9 (Ac rfl h2) ((Am rfl 1).trans rfl) (Nat.le_of_ble_eq_true rfl) (by exact rfl) AH), Nat.le_add_right _ _, AF9 (by simp [Hg, cutV, AK, AK.belowL]) (AF6 (l0 := [.dead, (.box [(.map (st.length + 2)), (.map (st.length + 3)), (.map (st.length + 4))]), (.map AD AV v2), (.map AD AV v3), (.map AD AV v4)]) (l1 := _) hwf rfl rfl (by simp [KH, cutV, AK, AK.belowL]) hst) h⟩
   refine AO (Ae (Al ?_))
   refine AT ?_
   refine Al (Af ?_)
   unfold Z1
   refine Br (row := TS.row) (AP (e_t (em rfl h13)) Bt) (e_t (em rfl h15)) hr TS.row_eq (fun _ => rfl) (fun v6 hr => ?_)
   refine Dc (e_t eh) (Nat.le_of_ble_eq_true rfl) (by exact rfl) ?_
   refine Cn (k := 6) rfl rfl ?_
   refine Bl (e_t eh) ((Am rfl 6).trans rfl) (e_t (em rfl eh)) Bf rfl (Nat.le_of_ble_eq_true rfl) (by exact rfl) (cells' := [(.d (.int .i64 v6.Op)), (.d (.str v6.Name)), (.d (.str v6.Src)), (.d (.int .i64 v6.N)), (.d (.sl (List.map rS v6.Cols))), (.d (.sl (List.map TE.row v6.Exprs))), (.d (.sl (List.map TS.row v6.Body))), (.d (.sl (List.map TS.row v6.Else)))]) (by exact rfl) (Bo rfl _ _) ?_
   refine Aa (Ae (Af ?_))
   unfold Aa7
   refine Bw (e_t (Ad rfl h3)) ((Am rfl 5).trans rfl) (Nat.le_of_ble_eq_true rfl) (by exact rfl) ?_
   refine Bw (e_t (em rfl eh)) ((Am rfl 6).trans rfl) (Nat.le_of_ble_eq_true rfl) (by exact rfl) ?_
   obtain ⟨v7, hc_v7, hr⟩ := bind_some hr
   refine AJ (Ar (e_t (em rfl eh)) (Bx (Aq Qa (Aq Qa (Aq Qa B3)))) (Ar (e_t eh) (Bx (Aq f_d (Aq f_d (Aq f_d (Aq f_d (Aq f_d (Aq f_d (Aq f_d (Aq f_d B3))))))))) AM)) ?_
   refine Ao3 n v2 v3 v4 v6 hc_v7 ((Am rfl 2).trans rfl) ((Am rfl 3).trans rfl) ((Am rfl 4).trans rfl) (by simp) (by simp) (by simp) ((congrArg (List.set · _ _) ((congrArg (List.set · _ _) (Bo rfl _ _)).trans (Bo rfl _ _))).trans (Bo rfl _ _)) ?_
   refine Aa ?_
   refine BB ?_
   refine Ae (Af ?_)
   unfold Aa4
   refine As (e_t (Ad rfl (Ac rfl (em rfl h15)))) e_c (BU ?_)
   refine Ab (e_t eh) (Aa (Ae ?_))
   exact ⟨m_0, _, Nat.lt_succ_self m_0, Ghost.cut _ (st.length + 6) (Nat.le_add_right _ _), v7.1, v7.2.1, v7.2.2, (IntKind.wrap .i64 (v5 + (1 : Int))), (by rw [hrec_0]; exact hr), ((congrArg (cutV _) (Ak rfl (em rfl h2))).trans (by simp [cutV, AK])), ((congrArg (cutV _) (Ak rfl (em rfl h3))).trans (by simp [cutV, AK])), ((congrArg (cutV _) (Ak rfl (em rfl h13))).trans (v_d)), ((congrArg (cutV _) (Ak rfl (em rfl h14))).trans (v_d)), ((congrArg (cutV _) eh).trans (v_d)), (EN (l0 := [(.box [(.d (.str p0.Name)), (.d (.str p0.From)), (.d (.str p0.At)), (.d (.int .i64 p0.Fuel)), (.d (.sl (List.map T_api_Column.row p0.Params))), (.d (.sl (List.map TS.row p0.Body)))]), (.box [.nilm, .nilm, .nilm]), (.map AD AV v7.1), (.map AD AV v7.2.1), (.map AD AV v7.2.2), (.box [(.map (st.length + 2)), (.map (st.length + 3)), (.map (st.length + 4))])]) (l1 := _) hwf rfl rfl (by simp [KH, cutV, AK, AK.belowL]))⟩
end Go.Ax
