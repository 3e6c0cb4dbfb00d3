import Derived.Test.YtojkpenjeglipaaIYT
import Derived.Test.YtojkpenjeglipaaICVX
import Derived.Test.YtojkpenjeglipaaICPrim
import Derived.Test.YtojkpenjeglipaaIYD12
set_option linter.unusedVariables false
set_option linter.unusedSimpArgs false
namespace Go.Ax
attribute [local irreducible] BL ER FD Bf CF Fz B6 KZ HX upd ev u0 Dt frz A6 EB mmD bnd BV Ft Do CO GU Ht G2 cutV I1 Cv
variable {st : List Content}
def Gr (v3 : (List TE)) (v5 : (List Int)) (v7 : (List Int)) (v8 : Int) (q0 : (List TE) → (List Int) → (List Int) → Int → Option TTree) (v10 : TLeaf) (v12 : (List TE)) (v13 : Int) (v14 : Int) : Option TTree :=
 ((Gq 88 v3 ([(⟨v10.Op, v10.N, v10.S, v10.Name, v10.Src, v12⟩ : TE)])).bind fun v23 => ((Gq 8 v5 ([(Du v13 v14).1])).bind fun v24 => ((Gq 8 v7 ([(Du v13 v14).2])).bind fun v25 => q0 v23 v24 v25 (IntKind.wrap .i64 (v8 + (1 : Int))))))
def Fd (v3 : (List TE)) (v5 : (List Int)) (v7 : (List Int)) (v8 : Int) (q0 : (List TE) → (List Int) → (List Int) → Int → Option TTree) (v10 : TLeaf) (v12 : (List TE)) (v13 : Int) (v14 : Int) (v15 : Int) (q1 : (List TE) → Int → Int → Int → Option TTree) (v16 : Bool) : Option TTree :=
 (bif v16 then ((Dh v10.Kids v15).bind fun v17 => ((Hi v17 v8).bind fun v18 => (bif (decide ((0 : Int) ≤ v18)) then ((Dh v3 v18).bind fun v19 => ((Gq 88 v12 ([v19])).bind fun v20 => ((Dh v5 v18).bind fun v21 => ((Dh v7 v18).bind fun v22 => q1 v20 (IntKind.wrap .i64 (v13 + v21)) (max v14 (IntKind.wrap .i64 (v22 + (1 : Int)))) (IntKind.wrap .i64 (v15 + (1 : Int))))))) else q1 v12 v13 v14 (IntKind.wrap .i64 (v15 + (1 : Int)))))) else (Gr v3 v5 v7 v8 q0 v10 v12 v13 v14))
def HH (v3 : (List TE)) (v5 : (List Int)) (v7 : (List Int)) (v8 : Int) (q0 : (List TE) → (List Int) → (List Int) → Int → Option TTree) (v10 : TLeaf) (q1 : (List TE) → Int → Int → Int → Option TTree) (v12 : (List TE)) (v13 : Int) (v14 : Int) (v15 : Int) : Option TTree :=
 (bif (decide (v15 < (v10.Kids.length : Int))) then (Fd v3 v5 v7 v8 q0 v10 v12 v13 v14 v15 q1 (decide (v15 < (4 : Int)))) else (Fd v3 v5 v7 v8 q0 v10 v12 v13 v14 v15 q1 false))
def CM (v3 : (List TE)) (v5 : (List Int)) (v7 : (List Int)) (v8 : Int) (q0 : (List TE) → (List Int) → (List Int) → Int → Option TTree) (v10 : TLeaf) : Nat → (List TE) → Int → Int → Int → Option TTree
 | 0, _, _, _, _ => none
 | m + 1, v12, v13, v14, v15 => HH v3 v5 v7 v8 q0 v10 (CM v3 v5 v7 v8 q0 v10 m) v12 v13 v14 v15
def Gs (v27 : (List TS)) (v29 : (List Int)) (v31 : (List Int)) (v32 : Int) (q2 : (List TS) → (List Int) → (List Int) → Int → Option TTree) (v34 : TKnot) (v36 : (List TE)) (v48 : (List TS)) (v50 : (List TS)) (v51 : Int) (v52 : Int) : Option TTree :=
 ((Gq 144 v27 ([(⟨v34.Op, v34.Name, v34.Src, v34.N, v34.Cols, v36, v48, v50⟩ : TS)])).bind fun v66 => ((Gq 8 v29 ([(Du v51 v52).1])).bind fun v67 => ((Gq 8 v31 ([(Du v51 v52).2])).bind fun v68 => q2 v66 v67 v68 (IntKind.wrap .i64 (v32 + (1 : Int))))))
def ED (v27 : (List TS)) (v29 : (List Int)) (v31 : (List Int)) (v34 : TKnot) (q3 : (List TS) → (List TS) → Int → Int → Int → Option TTree) (v48 : (List TS)) (v50 : (List TS)) (v51 : Int) (v52 : Int) (v53 : Int) (v59 : Int) : Option TTree :=
 (bif (decide (v59 < (0 : Int))) then q3 v48 v50 v51 v52 (IntKind.wrap .i64 (v53 + (1 : Int))) else ((Dh v29 v59).bind fun v60 => ((Dh v31 v59).bind fun v61 => (bif (decide (v53 < (v34.Body.length : Int))) then ((Dh v27 v59).bind fun v62 => ((Gq 144 v48 ([v62])).bind fun v63 => q3 v63 v50 (IntKind.wrap .i64 (v51 + v60)) (max v52 (IntKind.wrap .i64 (v61 + (1 : Int)))) (IntKind.wrap .i64 (v53 + (1 : Int))))) else ((Dh v27 v59).bind fun v64 => ((Gq 144 v50 ([v64])).bind fun v65 => q3 v48 v65 (IntKind.wrap .i64 (v51 + v60)) (max v52 (IntKind.wrap .i64 (v61 + (1 : Int)))) (IntKind.wrap .i64 (v53 + (1 : Int)))))))))
def EY (v27 : (List TS)) (v29 : (List Int)) (v31 : (List Int)) (v32 : Int) (q2 : (List TS) → (List Int) → (List Int) → Int → Option TTree) (v34 : TKnot) (v36 : (List TE)) (q3 : (List TS) → (List TS) → Int → Int → Int → Option TTree) (v48 : (List TS)) (v50 : (List TS)) (v51 : Int) (v52 : Int) (v53 : Int) (v54 : Bool) : Option TTree :=
 (bif v54 then (bif (decide (v53 < (v34.Body.length : Int))) then ((Dh v34.Body v53).bind fun v55 => ((Hi v55 v32).bind fun v56 => (ED v27 v29 v31 v34 q3 v48 v50 v51 v52 v53 v56))) else ((Dh v34.Else (IntKind.wrap .i64 (v53 - (v34.Body.length : Int)))).bind fun v57 => ((Hi v57 v32).bind fun v58 => (ED v27 v29 v31 v34 q3 v48 v50 v51 v52 v53 v58)))) else (Gs v27 v29 v31 v32 q2 v34 v36 v48 v50 v51 v52))
def HP (v27 : (List TS)) (v29 : (List Int)) (v31 : (List Int)) (v32 : Int) (q2 : (List TS) → (List Int) → (List Int) → Int → Option TTree) (v34 : TKnot) (v36 : (List TE)) (q3 : (List TS) → (List TS) → Int → Int → Int → Option TTree) (v48 : (List TS)) (v50 : (List TS)) (v51 : Int) (v52 : Int) (v53 : Int) : Option TTree :=
 (bif (decide (v53 < (IntKind.wrap .i64 ((v34.Body.length : Int) + (v34.Else.length : Int))))) then (EY v27 v29 v31 v32 q2 v34 v36 q3 v48 v50 v51 v52 v53 (decide (v53 < (10 : Int)))) else (EY v27 v29 v31 v32 q2 v34 v36 q3 v48 v50 v51 v52 v53 false))
def Cd (v27 : (List TS)) (v29 : (List Int)) (v31 : (List Int)) (v32 : Int) (q2 : (List TS) → (List Int) → (List Int) → Int → Option TTree) (v34 : TKnot) (v36 : (List TE)) : Nat → (List TS) → (List TS) → Int → Int → Int → Option TTree
 | 0, _, _, _, _, _ => none
 | m + 1, v48, v50, v51, v52, v53 => HP v27 v29 v31 v32 q2 v34 v36 (Cd v27 v29 v31 v32 q2 v34 v36 m) v48 v50 v51 v52 v53
def GF (n : Nat) (v27 : (List TS)) (v29 : (List Int)) (v31 : (List Int)) (v32 : Int) (q2 : (List TS) → (List Int) → (List Int) → Int → Option TTree) (v34 : TKnot) (v36 : (List TE)) (v37 : Int) (v38 : Int) : Option TTree :=
 (Cd v27 v29 v31 v32 q2 v34 v36 n ([]) ([]) v37 v38 (0 : Int))
def E9 (n : Nat) (v3 : (List TE)) (v5 : (List Int)) (v7 : (List Int)) (v27 : (List TS)) (v29 : (List Int)) (v31 : (List Int)) (v32 : Int) (q2 : (List TS) → (List Int) → (List Int) → Int → Option TTree) (v34 : TKnot) (v36 : (List TE)) (v37 : Int) (v38 : Int) (v39 : Int) (q4 : (List TE) → Int → Int → Int → Option TTree) (v40 : Bool) : Option TTree :=
 (bif v40 then ((Dh v34.Exprs v39).bind fun v41 => ((Hi v41 (v3.length : Int)).bind fun v42 => (bif (decide ((0 : Int) ≤ v42)) then ((Dh v3 v42).bind fun v43 => ((Gq 88 v36 ([v43])).bind fun v44 => ((Dh v5 v42).bind fun v45 => ((Dh v7 v42).bind fun v46 => q4 v44 (IntKind.wrap .i64 (v37 + v45)) (max v38 (IntKind.wrap .i64 (v46 + (1 : Int)))) (IntKind.wrap .i64 (v39 + (1 : Int))))))) else q4 v36 v37 v38 (IntKind.wrap .i64 (v39 + (1 : Int)))))) else (GF n v27 v29 v31 v32 q2 v34 v36 v37 v38))
def HJ (n : Nat) (v3 : (List TE)) (v5 : (List Int)) (v7 : (List Int)) (v27 : (List TS)) (v29 : (List Int)) (v31 : (List Int)) (v32 : Int) (q2 : (List TS) → (List Int) → (List Int) → Int → Option TTree) (v34 : TKnot) (q4 : (List TE) → Int → Int → Int → Option TTree) (v36 : (List TE)) (v37 : Int) (v38 : Int) (v39 : Int) : Option TTree :=
 (bif (decide (v39 < (v34.Exprs.length : Int))) then (E9 n v3 v5 v7 v27 v29 v31 v32 q2 v34 v36 v37 v38 v39 q4 (decide (v39 < (10 : Int)))) else (E9 n v3 v5 v7 v27 v29 v31 v32 q2 v34 v36 v37 v38 v39 q4 false))
def CE (n : Nat) (v3 : (List TE)) (v5 : (List Int)) (v7 : (List Int)) (v27 : (List TS)) (v29 : (List Int)) (v31 : (List Int)) (v32 : Int) (q2 : (List TS) → (List Int) → (List Int) → Int → Option TTree) (v34 : TKnot) : Nat → (List TE) → Int → Int → Int → Option TTree
 | 0, _, _, _, _ => none
 | m + 1, v36, v37, v38, v39 => HJ n v3 v5 v7 v27 v29 v31 v32 q2 v34 (CE n v3 v5 v7 v27 v29 v31 v32 q2 v34 m) v36 v37 v38 v39
def FQ (p1 : (List TKnot)) (n : Nat) (v3 : (List TE)) (v5 : (List Int)) (v7 : (List Int)) (v27 : (List TS)) (v29 : (List Int)) (v31 : (List Int)) (v32 : Int) (q2 : (List TS) → (List Int) → (List Int) → Int → Option TTree) (v33 : Bool) : Option TTree :=
 (bif v33 then ((Dh p1 v32).bind fun v34 => (CE n v3 v5 v7 v27 v29 v31 v32 q2 v34 n ([]) (1 : Int) (1 : Int) (0 : Int))) else some (⟨v3, v5, v7, v27, v29, v31⟩ : TTree))
def HV (p1 : (List TKnot)) (n : Nat) (v3 : (List TE)) (v5 : (List Int)) (v7 : (List Int)) (q2 : (List TS) → (List Int) → (List Int) → Int → Option TTree) (v27 : (List TS)) (v29 : (List Int)) (v31 : (List Int)) (v32 : Int) : Option TTree :=
 (bif (decide (v32 < (p1.length : Int))) then (FQ p1 n v3 v5 v7 v27 v29 v31 v32 q2 (decide (v32 < (50 : Int)))) else (FQ p1 n v3 v5 v7 v27 v29 v31 v32 q2 false))
def Cq (p1 : (List TKnot)) (n : Nat) (v3 : (List TE)) (v5 : (List Int)) (v7 : (List Int)) : Nat → (List TS) → (List Int) → (List Int) → Int → Option TTree
 | 0, _, _, _, _ => none
 | m + 1, v27, v29, v31, v32 => HV p1 n v3 v5 v7 (Cq p1 n v3 v5 v7 m) v27 v29 v31 v32
def FK (p0 : (List TLeaf)) (p1 : (List TKnot)) (n : Nat) (v3 : (List TE)) (v5 : (List Int)) (v7 : (List Int)) (v8 : Int) (q0 : (List TE) → (List Int) → (List Int) → Int → Option TTree) (v9 : Bool) : Option TTree :=
 (bif v9 then ((Dh p0 v8).bind fun v10 => (CM v3 v5 v7 v8 q0 v10 n ([]) (1 : Int) (1 : Int) (0 : Int))) else (Cq p1 n v3 v5 v7 n ([]) ([]) ([]) (0 : Int)))
def HI (p0 : (List TLeaf)) (p1 : (List TKnot)) (n : Nat) (q0 : (List TE) → (List Int) → (List Int) → Int → Option TTree) (v3 : (List TE)) (v5 : (List Int)) (v7 : (List Int)) (v8 : Int) : Option TTree :=
 (bif (decide (v8 < (p0.length : Int))) then (FK p0 p1 n v3 v5 v7 v8 q0 (decide (v8 < (50 : Int)))) else (FK p0 p1 n v3 v5 v7 v8 q0 false))
def CD (p0 : (List TLeaf)) (p1 : (List TKnot)) (n : Nat) : Nat → (List TE) → (List Int) → (List Int) → Int → Option TTree
 | 0, _, _, _, _ => none
 | m + 1, v3, v5, v7, v8 => HI p0 p1 n (CD p0 p1 n m) v3 v5 v7 v8
def Kj (n : Nat) (p0 : (List TLeaf)) (p1 : (List TKnot)) : Option TTree :=
 (CD p0 p1 n n ([]) ([]) ([]) (0 : Int))
set_option maxRecDepth 100000 in
set_option maxHeartbeats 4000000 in
theorem AE9 (n : Nat) (p0 : (List TLeaf)) (p1 : (List TKnot)) {r : TTree} (hr : Kj n p0 p1 = some r) {K : PV → List Content → Prop} (h : K (.agg [(.d (.sl (List.map TE.row r.Exprs))), (.d (.sl (List.map (rI .i64) r.Nodes))), (.d (.sl (List.map (rI .i64) r.Depth))), (.d (.sl (List.map TS.row r.Stmts))), (.d (.sl (List.map (rI .i64) r.Much))), (.d (.sl (List.map (rI .i64) r.Deep)))]) st) : Aw PR YR [(.d (.sl (List.map TLeaf.row p0))), (.d (.sl (List.map TKnot.row p1)))] st K := by
 refine Aw.of AG8 (Nat.le_of_ble_eq_true rfl) fun hwf => ?_
 rw [DX]
 refine AQ ?_
 unfold An5
 rw [Kj] at hr
 refine Al (Af ?_)
 unfold WK
 refine Ci (k := 0) rfl rfl ?_
 refine Aa (Ae (Al (Af ?_)))
 unfold Wb
 refine Ir (cs := [(.ex []), (.ex []), (.ex []), (.ex []), (.ex []), (.ex [])]) Kp Kt ?_
 refine Ci (k := 1) rfl rfl ?_
 refine Bl (e_t eh) ((Am rfl 1).trans rfl) (e_t (em rfl eh)) Bg rfl (Nat.le_of_ble_eq_true rfl) (by exact rfl) (cells' := [(.ex []), (.ex []), (.ex []), (.ex []), (.ex []), (.ex [])]) (by exact rfl) (Bk rfl _ _) ?_
 refine Aa (Ae (Al (Al (Af ?_))))
 unfold Wt
 refine Ab e_c (Aa (Ae ?_))
 refine AX ?_
 refine Ca (fun m f st' => ∃ (v3 : (List TE)), ∃ (v5 : (List Int)), ∃ (v7 : (List Int)), ∃ (v8 : Int), ∃ (w2 : Nat), ∃ (w4 : Nat), ∃ (w6 : Nat), CD p0 p1 n m v3 v5 v7 v8 = some r ∧ f 0 = (.d (.sl (List.map TLeaf.row p0))) ∧ f 1 = (.d (.sl (List.map TKnot.row p1))) ∧ f 4 = (.ptr (st.length + 0) 0) ∧ f 5 = (.ptr (st.length + 1) 0) ∧ f 6 = (.d (.int .i64 v8)) ∧ st' = st ++ [(.box [(.ex []), (.ex []), (.ex []), (.ex []), (.ex []), (.ex [])]), (.box [(.own (st.length + 2) w2), (.own (st.length + 3) w4), (.own (st.length + 4) w6), (.ex []), (.ex []), (.ex [])]), (.row AV w2 (List.map TE.row v3)), (.row Ba w4 (List.map (rI .i64) v5)), (.row Ba w6 (List.map (rI .i64) v7))]) n (Ghost.trans (Gm (k := 2) (cells := [(.ex []), (.ex []), (.ex []), (.ex []), (.ex []), (.ex [])]) 1 0 (List.map TE.row ([])) AV 6 rfl rfl rfl rfl rfl (JH TE.row_eq)) (Ghost.trans (Gm (k := 3) (cells := [(.own (st.length + 2) 0), (.ex []), (.ex []), (.ex []), (.ex []), (.ex [])]) 1 1 (List.map (rI .i64) ([])) Ba 1 rfl rfl rfl rfl rfl (JH (fun _ => rfl))) (Gm (k := 4) (cells := [(.own (st.length + 2) 0), (.own (st.length + 3) 0), (.ex []), (.ex []), (.ex []), (.ex [])]) 1 2 (List.map (rI .i64) ([])) Ba 1 rfl rfl rfl rfl rfl (JH (fun _ => rfl))))) ⟨[], [], [], (0 : Int), 0, 0, 0, hr, (Ad rfl eh), (Ad rfl (em rfl eh)), (Ac rfl (em rfl eh)), (em rfl eh), eh, rfl⟩ ?_
 rintro m f st' ⟨v3, v5, v7, v8, w2, w4, w6, hr, h0, h1, h4, h5, h6, rfl⟩
 cases m with
 | zero => cases hr
 | succ m_0 =>
   rw [CD] at hr
   generalize hrec_0 : CD p0 p1 n m_0 = q0 at hr
   rw [HI] at hr
   unfold Td
   refine Al ?_
   refine BD (fun f st' => ∃ (v9 : Bool), FK p0 p1 n v3 v5 v7 v8 q0 v9 = some r ∧ f 0 = (.d (.sl (List.map TLeaf.row p0))) ∧ f 1 = (.d (.sl (List.map TKnot.row p1))) ∧ f 4 = (.ptr (st.length + 0) 0) ∧ f 5 = (.ptr (st.length + 1) 0) ∧ f 6 = (.d (.int .i64 v8)) ∧ f 31 = (.d (.bool v9)) ∧ st' = st ++ [(.box [(.ex []), (.ex []), (.ex []), (.ex []), (.ex []), (.ex [])]), (.box [(.own (st.length + 2) w2), (.own (st.length + 3) w4), (.own (st.length + 4) w6), (.ex []), (.ex []), (.ex [])]), (.row AV w2 (List.map TE.row v3)), (.row Ba w4 (List.map (rI .i64) v5)), (.row Ba w6 (List.map (rI .i64) v7))]) ?_ ?_
   · refine Af ?_
     unfold Wy
     refine Ab (e_t h6) (Ab (e_t (em rfl h0)) ?_)
     refine Bh (row := TLeaf.row) (AL (e_t eh) Bq) ?_
     refine Ar (e_t (Ac rfl eh)) (e_t eh) (CL ?_)
     refine Ab (e_t eh) ?_
     refine Au eh hr (fun hr => ?_) (fun hr => ?_)
     rotate_left
     · refine Ah eh (Ah (em rfl eh) (Ao (e_t (Ac rfl eh)) e_c (Aa (Ae ?_))))
       exact ⟨false, hr, (Ak rfl (em rfl h0)), (Ak rfl (em rfl h1)), (Ak rfl (em rfl h4)), (Ak rfl (em rfl h5)), (Ak rfl (em rfl h6)), eh, rfl⟩
     refine Aj eh (Ab (e_t (Ad rfl (Ac rfl h6))) (Aj (em rfl eh) ?_))
     refine Ar (e_t eh) e_c (CL ?_)
     refine An (e_t (Ac rfl eh)) (e_t eh) (Aa (Ae ?_))
     exact ⟨(decide (v8 < (50 : Int))), hr, (Ak rfl (em rfl h0)), (Ak rfl (em rfl h1)), (Ak rfl (em rfl h4)), (Ak rfl (em rfl h5)), (Ak rfl (em rfl h6)), eh, rfl⟩
   rintro f st' ⟨v9, hr, h0, h1, h4, h5, h6, h31, rfl⟩
   rw [FK] at hr
   refine AC (e_t h31) hr (fun hr => ?_) (fun hr => ?_)
   · refine AN (Ae (Al ?_))
     refine AX ?_
     refine Al (Af ?_)
     unfold WE
     refine Ab (e_t h0) (Ab (e_t (em rfl h6)) ?_)
     refine Bt (row := TLeaf.row) (AL (e_t (em rfl eh)) Bq) (e_t eh) hr TLeaf.row_eq (fun _ => rfl) (fun v10 hr => ?_)
     refine DH (e_t eh) (Nat.le_of_ble_eq_true rfl) (by exact rfl) ?_
     refine Ci (k := 5) rfl rfl ?_
     refine Bl (e_t eh) ((Am rfl 5).trans rfl) (e_t (em rfl eh)) Bg rfl (Nat.le_of_ble_eq_true rfl) (by exact rfl) (cells' := [(.d (.int .i64 v10.Op)), (.d (.int .i64 v10.N)), (.d (.str v10.S)), (.d (.str v10.Name)), (.d (.str v10.Src)), (.d (.sl (List.map (rI .i64) v10.Kids)))]) (by exact rfl) (Bk rfl _ _) ?_
     refine Aa (Ae (Al (Af ?_)))
     unfold VU
     refine AB (e_t eh) (by exact rfl) ?_
     refine Ap (e_t eh) ((Am rfl 5).trans rfl) (by exact rfl) ?_
     refine AB (e_t (Ac rfl eh)) (by exact rfl) ?_
     refine Ap (e_t eh) ((Am rfl 5).trans rfl) (by exact rfl) ?_
     refine AB (e_t (Ad rfl eh)) (by exact rfl) ?_
     refine Ap (e_t eh) ((Am rfl 5).trans rfl) (by exact rfl) ?_
     refine AB (e_t (Ad rfl (Ac rfl eh))) (by exact rfl) ?_
     refine Ap (e_t eh) ((Am rfl 5).trans rfl) (by exact rfl) ?_
     refine AB (e_t (Ad rfl (Ad rfl eh))) (by exact rfl) ?_
     refine Ap (e_t eh) ((Am rfl 5).trans rfl) (by exact rfl) ?_
     refine Ir (cs := [(.d (.int .i64 v10.Op)), (.d (.int .i64 v10.N)), (.d (.str v10.S)), (.d (.str v10.Name)), (.d (.str v10.Src)), (.ex [])]) (Cl (e_t (Ad rfl (Ad rfl eh))) AZ rfl (Nat.le_of_ble_eq_true rfl) (by exact rfl) (Cl (e_t (Ad rfl (Ac rfl eh))) AZ rfl (Nat.le_of_ble_eq_true rfl) (by exact rfl) (Cl (e_t (Ad rfl eh)) AZ rfl (Nat.le_of_ble_eq_true rfl) (by exact rfl) (Cl (e_t (Ac rfl eh)) AZ rfl (Nat.le_of_ble_eq_true rfl) (by exact rfl) (Cl (e_t eh) AZ rfl (Nat.le_of_ble_eq_true rfl) (by exact rfl) Kp))))) (Ck (e_t (Ad rfl (Ad rfl eh))) AZ (by exact rfl) (Ck (e_t (Ad rfl (Ac rfl eh))) AZ (by exact rfl) (Ck (e_t (Ad rfl eh)) AZ (by exact rfl) (Ck (e_t (Ac rfl eh)) AZ (by exact rfl) (Ck (e_t eh) AZ (by exact rfl) Kt))))) ?_
     refine Ci (k := 6) rfl rfl ?_
     refine Bl (e_t eh) ((Am rfl 6).trans rfl) (e_t (em rfl eh)) Bg rfl (Nat.le_of_ble_eq_true rfl) (by exact rfl) (cells' := [(.d (.int .i64 v10.Op)), (.d (.int .i64 v10.N)), (.d (.str v10.S)), (.d (.str v10.Name)), (.d (.str v10.Src)), (.ex [])]) (by exact rfl) (Bk rfl _ _) ?_
     refine Aa (Ae (Al (Af ?_)))
     unfold Wm
     refine Ab e_c (Ab e_c (Aa (Ae ?_)))
     refine BD (fun f st' => ∃ (v12 : (List TE)), ∃ (v13 : Int), ∃ (v14 : Int), ∃ (w11 : Nat), Gr v3 v5 v7 v8 q0 v10 v12 v13 v14 = some r ∧ f 0 = (.d (.sl (List.map TLeaf.row p0))) ∧ f 1 = (.d (.sl (List.map TKnot.row p1))) ∧ f 4 = (.ptr (st.length + 0) 0) ∧ f 5 = (.ptr (st.length + 1) 0) ∧ f 6 = (.d (.int .i64 v8)) ∧ f 8 = (.ptr (st.length + 6) 0) ∧ f 9 = (.d (.int .i64 v13)) ∧ f 10 = (.d (.int .i64 v14)) ∧ st' = st ++ [(.box [(.ex []), (.ex []), (.ex []), (.ex []), (.ex []), (.ex [])]), (.box [(.own (st.length + 2) w2), (.own (st.length + 3) w4), (.own (st.length + 4) w6), (.ex []), (.ex []), (.ex [])]), (.row AV w2 (List.map TE.row v3)), (.row Ba w4 (List.map (rI .i64) v5)), (.row Ba w6 (List.map (rI .i64) v7)), (.box [(.d (.int .i64 v10.Op)), (.d (.int .i64 v10.N)), (.d (.str v10.S)), (.d (.str v10.Name)), (.d (.str v10.Src)), (.d (.sl (List.map (rI .i64) v10.Kids)))]), (.box [(.d (.int .i64 v10.Op)), (.d (.int .i64 v10.N)), (.d (.str v10.S)), (.d (.str v10.Name)), (.d (.str v10.Src)), (.own (st.length + 7) w11)]), (.row AV w11 (List.map TE.row v12))]) ?_ ?_
     rotate_left
     · rintro f st' ⟨v12, v13, v14, w11, hr, h0, h1, h4, h5, h6, h8, h9, h10, rfl⟩
       rw [Gr] at hr
       refine Al (Af ?_)
       unfold T2
       refine Ab (e_t h9) (Ab (e_t (em rfl h10)) ?_)
       refine AP (Ay (e_t (em rfl eh)) AG (Ay (e_t eh) AG AR)) ?_
       refine Aj8 v13 v14 rfl ?_
       refine Ab (e_t eh) ?_
       refine GZ (e_t eh) (by exact rfl) ?_
       refine GZ (e_t (em rfl eh)) (by exact rfl) ?_
       refine Ab (e_t (em rfl eh)) (Ab (e_t (em rfl eh)) (Aa (Ae (Al (Af ?_)))))
       unfold U9
       refine AB (e_t (Ad rfl (Ad rfl h5))) (by exact rfl) ?_
       refine Ap (e_t eh) ((Am rfl 1).trans rfl) (by exact rfl) ?_
       refine BF (e_t (Ak rfl (Ac rfl h8))) ((Am rfl 6).trans rfl) (Nat.le_of_ble_eq_true rfl) (by exact rfl) ?_
       refine CX (rows := List.map TE.row [(⟨v10.Op, v10.N, v10.S, v10.Name, v10.Src, v12⟩ : TE)]) (JU (by simp only [List.map, TE.row_eq]) (AE (e_t eh) Bg (As f_d (As f_d (As f_d (As f_d (As f_d (As (JB ((Am rfl 7).trans rfl)) AK)))))) rfl DV)) ?_
       refine Hg (row := TE.row) (AL (e_t eh) KJ) TE.row_eq (fun _ => rfl) (e_t (Ac rfl eh)) ((Am rfl 2).trans rfl) (fun _ => (Bk rfl _ _)) hr (fun v23 hr => ?_)
       refine AB (e_t (Ak rfl (Ad rfl (em rfl h5)))) (by exact rfl) ?_
       refine Bl (e_t eh) ((Am rfl 1).trans rfl) (e_t (em rfl eh)) rfl rfl (Nat.le_of_ble_eq_true rfl) (by exact rfl) (cells' := [(.own (st.length + 2) (w2 + 1)), (.own (st.length + 3) w4), (.own (st.length + 4) w6), (.ex []), (.ex []), (.ex [])]) (by exact rfl) (Bk rfl _ _) ?_
       refine Aa (Ae (Al (Af ?_)))
       unfold Um
       refine AB (e_t (Ak rfl (Ad rfl (Ac rfl h5)))) (by exact rfl) ?_
       refine Ap (e_t eh) ((Am rfl 1).trans rfl) (by exact rfl) ?_
       refine Ab (e_t (Ak rfl (em rfl eh))) ?_
       refine CX (rows := List.map (rI .i64) [(Du v13 v14).1]) ((AE (e_t eh) AZ (As f_d AK) rfl DV)) ?_
       refine Hg (row := (rI .i64)) (AL (e_t eh) KJ) (fun _ => rfl) (fun _ => rfl) (e_t (Ac rfl eh)) ((Am rfl 3).trans rfl) (fun _ => (Bk rfl _ _)) hr (fun v24 hr => ?_)
       refine AB (e_t (Ai rfl (Ac rfl (em rfl h5)))) (by exact rfl) ?_
       refine Bl (e_t eh) ((Am rfl 1).trans rfl) (e_t (em rfl eh)) rfl rfl (Nat.le_of_ble_eq_true rfl) (by exact rfl) (cells' := [(.own (st.length + 2) (w2 + 1)), (.own (st.length + 3) (w4 + 1)), (.own (st.length + 4) w6), (.ex []), (.ex []), (.ex [])]) (by exact rfl) (Bk rfl _ _) ?_
       refine Aa (Ae (Af ?_))
       unfold Sw
       refine AB (e_t (Ai rfl (Ad rfl h5))) (by exact rfl) ?_
       refine Ap (e_t eh) ((Am rfl 1).trans rfl) (by exact rfl) ?_
       refine Ab (e_t (Ak rfl (Ad rfl (Ac rfl eh)))) ?_
       refine CX (rows := List.map (rI .i64) [(Du v13 v14).2]) ((AE (e_t eh) AZ (As f_d AK) rfl DV)) ?_
       refine Hg (row := (rI .i64)) (AL (e_t eh) KJ) (fun _ => rfl) (fun _ => rfl) (e_t (Ac rfl eh)) ((Am rfl 4).trans rfl) (fun _ => (Bk rfl _ _)) hr (fun v25 hr => ?_)
       refine AB (e_t (Ai rfl (Ak rfl (em rfl h5)))) (by exact rfl) ?_
       refine Bl (e_t eh) ((Am rfl 1).trans rfl) (e_t (em rfl eh)) rfl rfl (Nat.le_of_ble_eq_true rfl) (by exact rfl) (cells' := [(.own (st.length + 2) (w2 + 1)), (.own (st.length + 3) (w4 + 1)), (.own (st.length + 4) (w6 + 1)), (.ex []), (.ex []), (.ex [])]) (by exact rfl) (Bk rfl _ _) ?_
       refine Aa ?_
       refine BA ?_
       refine Ae (Af ?_)
       unfold TG
       refine Ab (e_t (Ai rfl (Ak rfl (Ac rfl h6)))) ?_
       refine Ar (e_t eh) e_c (BX ?_)
       refine Ab (e_t eh) (Aa (Ae ?_))
       exact ⟨m_0, _, Nat.lt_succ_self m_0, Ghost.cut _ (st.length + 5) (Nat.le_add_right _ _), v23, v24, v25, (IntKind.wrap .i64 (v8 + (1 : Int))), (w2 + 1), (w4 + 1), (w6 + 1), (by rw [hrec_0]; exact hr), ((congrArg (cutV _) (Ai rfl (Ak rfl (Ad rfl (em rfl h0))))).trans (v_d)), ((congrArg (cutV _) (Ai rfl (Ak rfl (Ad rfl (em rfl h1))))).trans (v_d)), ((congrArg (cutV _) (Ai rfl (Ak rfl (Ad rfl (em rfl h4))))).trans (by simp [cutV, AJ])), ((congrArg (cutV _) (Ai rfl (Ak rfl (Ad rfl (em rfl h5))))).trans (by simp [cutV, AJ])), ((congrArg (cutV _) eh).trans (v_d)), (EO (l0 := [(.box [(.ex []), (.ex []), (.ex []), (.ex []), (.ex []), (.ex [])]), (.box [(.own (st.length + 2) (w2 + 1)), (.own (st.length + 3) (w4 + 1)), (.own (st.length + 4) (w6 + 1)), (.ex []), (.ex []), (.ex [])]), (.row AV (w2 + 1) (List.map TE.row v23)), (.row Ba (w4 + 1) (List.map (rI .i64) v24)), (.row Ba (w6 + 1) (List.map (rI .i64) v25))]) (l1 := _) hwf rfl rfl (by simp [Ka, cutV, AJ, AJ.belowL]))⟩
     refine Al (Af ?_)
     unfold Wl
     refine Ab e_c (Aa (Ae ?_))
     refine AX ?_
     refine Ca (fun m f st' => ∃ (v12 : (List TE)), ∃ (v13 : Int), ∃ (v14 : Int), ∃ (v15 : Int), ∃ (w11 : Nat), CM v3 v5 v7 v8 q0 v10 m v12 v13 v14 v15 = some r ∧ f 0 = (.d (.sl (List.map TLeaf.row p0))) ∧ f 1 = (.d (.sl (List.map TKnot.row p1))) ∧ f 4 = (.ptr (st.length + 0) 0) ∧ f 5 = (.ptr (st.length + 1) 0) ∧ f 6 = (.d (.int .i64 v8)) ∧ f 7 = (.ptr (st.length + 5) 0) ∧ f 8 = (.ptr (st.length + 6) 0) ∧ f 9 = (.d (.int .i64 v13)) ∧ f 10 = (.d (.int .i64 v14)) ∧ f 11 = (.d (.int .i64 v15)) ∧ st' = st ++ [(.box [(.ex []), (.ex []), (.ex []), (.ex []), (.ex []), (.ex [])]), (.box [(.own (st.length + 2) w2), (.own (st.length + 3) w4), (.own (st.length + 4) w6), (.ex []), (.ex []), (.ex [])]), (.row AV w2 (List.map TE.row v3)), (.row Ba w4 (List.map (rI .i64) v5)), (.row Ba w6 (List.map (rI .i64) v7)), (.box [(.d (.int .i64 v10.Op)), (.d (.int .i64 v10.N)), (.d (.str v10.S)), (.d (.str v10.Name)), (.d (.str v10.Src)), (.d (.sl (List.map (rI .i64) v10.Kids)))]), (.box [(.d (.int .i64 v10.Op)), (.d (.int .i64 v10.N)), (.d (.str v10.S)), (.d (.str v10.Name)), (.d (.str v10.Src)), (.own (st.length + 7) w11)]), (.row AV w11 (List.map TE.row v12))]) n (Gm (k := 7) (cells := [(.d (.int .i64 v10.Op)), (.d (.int .i64 v10.N)), (.d (.str v10.S)), (.d (.str v10.Name)), (.d (.str v10.Src)), (.ex [])]) 6 5 (List.map TE.row ([])) AV 6 rfl rfl rfl rfl rfl (JH TE.row_eq)) ⟨[], (1 : Int), (1 : Int), (0 : Int), 0, hr, (Ai rfl (Ad rfl h0)), (Ai rfl (Ad rfl h1)), (Ai rfl (Ad rfl h4)), (Ai rfl (Ad rfl h5)), (Ai rfl (Ad rfl h6)), (Ak rfl (Ad rfl (Ac rfl (em rfl eh)))), (Ac rfl (em rfl eh)), (Ac rfl eh), (em rfl eh), eh, rfl⟩ ?_
     rintro m f st' ⟨v12, v13, v14, v15, w11, hr, h0, h1, h4, h5, h6, h7, h8, h9, h10, h11, rfl⟩
     cases m with
     | zero => cases hr
     | succ m_1 =>
       rw [CM] at hr
       generalize hrec_1 : CM v3 v5 v7 v8 q0 v10 m_1 = q1 at hr
       rw [HH] at hr
       unfold UV
       refine Al ?_
       refine BD (fun f st' => ∃ (v16 : Bool), Fd v3 v5 v7 v8 q0 v10 v12 v13 v14 v15 q1 v16 = some r ∧ f 0 = (.d (.sl (List.map TLeaf.row p0))) ∧ f 1 = (.d (.sl (List.map TKnot.row p1))) ∧ f 4 = (.ptr (st.length + 0) 0) ∧ f 5 = (.ptr (st.length + 1) 0) ∧ f 6 = (.d (.int .i64 v8)) ∧ f 7 = (.ptr (st.length + 5) 0) ∧ f 8 = (.ptr (st.length + 6) 0) ∧ f 9 = (.d (.int .i64 v13)) ∧ f 10 = (.d (.int .i64 v14)) ∧ f 11 = (.d (.int .i64 v15)) ∧ f 57 = (.d (.bool v16)) ∧ st' = st ++ [(.box [(.ex []), (.ex []), (.ex []), (.ex []), (.ex []), (.ex [])]), (.box [(.own (st.length + 2) w2), (.own (st.length + 3) w4), (.own (st.length + 4) w6), (.ex []), (.ex []), (.ex [])]), (.row AV w2 (List.map TE.row v3)), (.row Ba w4 (List.map (rI .i64) v5)), (.row Ba w6 (List.map (rI .i64) v7)), (.box [(.d (.int .i64 v10.Op)), (.d (.int .i64 v10.N)), (.d (.str v10.S)), (.d (.str v10.Name)), (.d (.str v10.Src)), (.d (.sl (List.map (rI .i64) v10.Kids)))]), (.box [(.d (.int .i64 v10.Op)), (.d (.int .i64 v10.N)), (.d (.str v10.S)), (.d (.str v10.Name)), (.d (.str v10.Src)), (.own (st.length + 7) w11)]), (.row AV w11 (List.map TE.row v12))]) ?_ ?_
       · refine Af ?_
         unfold Wh
         refine Ab (e_t h11) ?_
         refine AB (e_t (em rfl h7)) (by exact rfl) ?_
         refine Ap (e_t eh) ((Am rfl 5).trans rfl) (by exact rfl) ?_
         refine Bh (row := (rI .i64)) (AL (e_t eh) Bq) ?_
         refine Ar (e_t (Ac rfl (em rfl eh))) (e_t eh) (CL ?_)
         refine Ab (e_t eh) ?_
         refine Au eh hr (fun hr => ?_) (fun hr => ?_)
         rotate_left
         · refine Ah eh (Ah (em rfl eh) (Ao (e_t (Ac rfl eh)) e_c (Aa (Ae ?_))))
           exact ⟨false, hr, (Ak rfl (Ac rfl h0)), (Ak rfl (Ac rfl h1)), (Ak rfl (Ac rfl h4)), (Ak rfl (Ac rfl h5)), (Ak rfl (Ac rfl h6)), (Ak rfl (Ac rfl h7)), (Ak rfl (Ac rfl h8)), (Ak rfl (Ac rfl h9)), (Ak rfl (Ac rfl h10)), (Ak rfl (Ac rfl h11)), eh, rfl⟩
         refine Aj eh (Ab (e_t (Ad rfl (Ac rfl (em rfl h11)))) (Aj (em rfl eh) ?_))
         refine Ar (e_t eh) e_c (CL ?_)
         refine An (e_t (Ac rfl eh)) (e_t eh) (Aa (Ae ?_))
         exact ⟨(decide (v15 < (4 : Int))), hr, (Ak rfl (Ac rfl h0)), (Ak rfl (Ac rfl h1)), (Ak rfl (Ac rfl h4)), (Ak rfl (Ac rfl h5)), (Ak rfl (Ac rfl h6)), (Ak rfl (Ac rfl h7)), (Ak rfl (Ac rfl h8)), (Ak rfl (Ac rfl h9)), (Ak rfl (Ac rfl h10)), (Ak rfl (Ac rfl h11)), eh, rfl⟩
       rintro f st' ⟨v16, hr, h0, h1, h4, h5, h6, h7, h8, h9, h10, h11, h57, rfl⟩
       rw [Fd] at hr
       refine AC (e_t h57) hr (fun hr => ?_) (fun hr => ?_)
       rotate_left
       · refine CP ?_
         refine A0 ?_
         refine A0 ?_
         refine Ea ?_
         refine Ae ?_
         exact ⟨v12, v13, v14, w11, hr, h0, h1, h4, h5, h6, h8, h9, h10, rfl⟩
       refine AN (Ae (Al ?_))
       refine AX ?_
       refine Al (Af ?_)
       unfold VN
       refine AB (e_t h7) (by exact rfl) ?_
       refine Ap (e_t eh) ((Am rfl 5).trans rfl) (by exact rfl) ?_
       refine Ab (e_t (Ac rfl h11)) ?_
       refine Bt (row := (rI .i64)) (AL (e_t (em rfl eh)) Bq) (e_t eh) hr (fun _ => rfl) (fun _ => rfl) (fun v17 hr => ?_)
       refine BG (e_t eh) (by exact rfl) ?_
       refine Ab (e_t (Ad rfl (em rfl h6))) ?_
       obtain ⟨v18, hc_v18, hr⟩ := bind_some hr
       refine AP (Ay (e_t (em rfl eh)) AG (Ay (e_t eh) AG AR)) ?_
       refine Xp v17 v8 hc_v18 ?_
       refine Ab (e_t eh) (Aa (Ae (Al (Af ?_))))
       unfold Sx
       refine Ab (e_t eh) ?_
       refine Ar (e_t eh) e_c (ET ?_)
       refine Aa (Ae ?_)
       refine AC (e_t eh) hr (fun hr => ?_) (fun hr => ?_)
       rotate_left
       · refine AN ?_
         refine BA ?_
         refine Ae (Af ?_)
         unfold OI
         refine Ab (e_t (Ak rfl (Ac rfl h11))) ?_
         refine Ar (e_t eh) e_c (BX ?_)
         refine Ab (e_t eh) (Aa (Ae ?_))
         exact ⟨m_1, _, Nat.lt_succ_self m_1, Ghost.refl _, v12, v13, v14, (IntKind.wrap .i64 (v15 + (1 : Int))), w11, (by rw [hrec_1]; exact hr), (Ak rfl (Ad rfl (em rfl h0))), (Ak rfl (Ad rfl (em rfl h1))), (Ak rfl (Ad rfl (em rfl h4))), (Ak rfl (Ad rfl (em rfl h5))), (Ak rfl (Ad rfl (em rfl h6))), (Ak rfl (Ad rfl (em rfl h7))), (Ak rfl (Ad rfl (em rfl h8))), (Ak rfl (Ad rfl (em rfl h9))), (Ak rfl (Ad rfl (em rfl h10))), eh, rfl⟩
       refine Al ?_
       refine DI (k := 8) rfl rfl ?_
       unfold SH
       refine AB (e_t (Ak rfl (Ac rfl h8))) (by exact rfl) ?_
       refine Ap (e_t eh) ((Am rfl 6).trans rfl) (by exact rfl) ?_
       refine AB (e_t (Ak rfl (Ad rfl h5))) (by exact rfl) ?_
       refine Ap (e_t eh) ((Am rfl 1).trans rfl) (by exact rfl) ?_
       refine Ab (e_t (Ad rfl (Ac rfl eh))) ?_
       refine Bt (row := TE.row) (AL (e_t (em rfl eh)) (Iz ((Am rfl 2).trans rfl))) (e_t eh) hr TE.row_eq (fun _ => rfl) (fun v19 hr => ?_)
       refine DH (e_t eh) (Nat.le_of_ble_eq_true rfl) (by exact rfl) ?_
       refine CX (rows := List.map TE.row [v19]) (JU (by simp only [List.map, TE.row_eq]) (AE (e_t eh) Bg (As f_d (As f_d (As f_d (As f_d (As f_d (As f_d AK)))))) rfl DV)) ?_
       refine Hg (row := TE.row) (AL (e_t eh) KJ) TE.row_eq (fun _ => rfl) (e_t (Ad rfl (Ac rfl eh))) ((Am rfl 7).trans rfl) (fun _ => (Bk rfl _ _)) hr (fun v20 hr => ?_)
       refine AB (e_t (Ai rfl (Ac rfl (em rfl h8)))) (by exact rfl) ?_
       refine Bl (e_t eh) ((Am rfl 6).trans rfl) (e_t (em rfl eh)) rfl rfl (Nat.le_of_ble_eq_true rfl) (by exact rfl) (cells' := [(.d (.int .i64 v10.Op)), (.d (.int .i64 v10.N)), (.d (.str v10.S)), (.d (.str v10.Name)), (.d (.str v10.Src)), (.own (st.length + 7) (w11 + 1))]) (by exact rfl) (Bk rfl _ _) ?_
       refine Aa (Ae (Al (Af ?_)))
       unfold Sv
       refine Ab (e_t (Ai rfl (Ad rfl h9))) ?_
       refine AB (e_t (Ai rfl (Ad rfl (em rfl h5)))) (by exact rfl) ?_
       refine Ap (e_t eh) ((Am rfl 1).trans rfl) (by exact rfl) ?_
       refine Ab (e_t (Ak rfl (Ad rfl (Ac rfl (em rfl eh))))) ?_
       refine Bt (row := (rI .i64)) (AL (e_t (em rfl eh)) (Iz ((Am rfl 3).trans rfl))) (e_t eh) hr (fun _ => rfl) (fun _ => rfl) (fun v21 hr => ?_)
       refine BG (e_t eh) (by exact rfl) ?_
       refine Ar (e_t (Ad rfl (em rfl eh))) (e_t eh) (BX ?_)
       refine Ab (e_t eh) (Aa (Ae (Af ?_)))
       unfold U0
       refine Ab (e_t (Ai rfl (Ak rfl (Ad rfl h10)))) ?_
       refine AB (e_t (Ai rfl (Ak rfl (Ad rfl (em rfl h5))))) (by exact rfl) ?_
       refine Ap (e_t eh) ((Am rfl 1).trans rfl) (by exact rfl) ?_
       refine Ab (e_t (Ai rfl (Ad rfl (Ac rfl (em rfl eh))))) ?_
       refine Bt (row := (rI .i64)) (AL (e_t (em rfl eh)) (Iz ((Am rfl 4).trans rfl))) (e_t eh) hr (fun _ => rfl) (fun _ => rfl) (fun v22 hr => ?_)
       refine BG (e_t eh) (by exact rfl) ?_
       refine Ar (e_t eh) e_c (BX ?_)
       refine Zg (e_t (Ad rfl (Ac rfl eh))) (Zh (e_t eh) (PW ?_))
       refine Ab (e_t eh) (Aa ?_)
       refine BA ?_
       refine Ae (Af ?_)
       unfold OI
       refine Ab (e_t (Ai rfl (Ai rfl (Ad rfl (em rfl h11))))) ?_
       refine Ar (e_t eh) e_c (BX ?_)
       refine Ab (e_t eh) (Aa (Ae ?_))
       exact ⟨m_1, _, Nat.lt_succ_self m_1, Ghost.cut _ (st.length + 8) (Nat.le_add_right _ _), v20, (IntKind.wrap .i64 (v13 + v21)), (max v14 (IntKind.wrap .i64 (v22 + (1 : Int)))), (IntKind.wrap .i64 (v15 + (1 : Int))), (w11 + 1), (by rw [hrec_1]; exact hr), ((congrArg (cutV _) (Ai rfl (Ai rfl (Ad rfl (Ad rfl h0))))).trans (v_d)), ((congrArg (cutV _) (Ai rfl (Ai rfl (Ad rfl (Ad rfl h1))))).trans (v_d)), ((congrArg (cutV _) (Ai rfl (Ai rfl (Ad rfl (Ad rfl h4))))).trans (by simp [cutV, AJ])), ((congrArg (cutV _) (Ai rfl (Ai rfl (Ad rfl (Ad rfl h5))))).trans (by simp [cutV, AJ])), ((congrArg (cutV _) (Ai rfl (Ai rfl (Ad rfl (Ad rfl h6))))).trans (v_d)), ((congrArg (cutV _) (Ai rfl (Ai rfl (Ad rfl (Ad rfl h7))))).trans (by simp [cutV, AJ])), ((congrArg (cutV _) (Ai rfl (Ai rfl (Ad rfl (Ad rfl h8))))).trans (by simp [cutV, AJ])), ((congrArg (cutV _) (Ak rfl (Ad rfl eh))).trans (v_d)), ((congrArg (cutV _) (Ac rfl (em rfl eh))).trans (v_d)), ((congrArg (cutV _) eh).trans (v_d)), (EO (l0 := [(.box [(.ex []), (.ex []), (.ex []), (.ex []), (.ex []), (.ex [])]), (.box [(.own (st.length + 2) w2), (.own (st.length + 3) w4), (.own (st.length + 4) w6), (.ex []), (.ex []), (.ex [])]), (.row AV w2 (List.map TE.row v3)), (.row Ba w4 (List.map (rI .i64) v5)), (.row Ba w6 (List.map (rI .i64) v7)), (.box [(.d (.int .i64 v10.Op)), (.d (.int .i64 v10.N)), (.d (.str v10.S)), (.d (.str v10.Name)), (.d (.str v10.Src)), (.d (.sl (List.map (rI .i64) v10.Kids)))]), (.box [(.d (.int .i64 v10.Op)), (.d (.int .i64 v10.N)), (.d (.str v10.S)), (.d (.str v10.Name)), (.d (.str v10.Src)), (.own (st.length + 7) (w11 + 1))]), (.row AV (w11 + 1) (List.map TE.row v20))]) (l1 := _) hwf rfl rfl (by simp [Ka, cutV, AJ, AJ.belowL]))⟩
   refine CP ?_
   refine A0 ?_
   refine A0 ?_
   refine Ea ?_
   refine Ae (Al (Al (Af ?_)))
   unfold SG
   refine Ab e_c (Aa (Ae ?_))
   refine AX ?_
   refine Ca (fun m f st' => ∃ (v27 : (List TS)), ∃ (v29 : (List Int)), ∃ (v31 : (List Int)), ∃ (v32 : Int), ∃ (w26 : Nat), ∃ (w28 : Nat), ∃ (w30 : Nat), Cq p1 n v3 v5 v7 m v27 v29 v31 v32 = some r ∧ f 1 = (.d (.sl (List.map TKnot.row p1))) ∧ f 4 = (.ptr (st.length + 0) 0) ∧ f 5 = (.ptr (st.length + 1) 0) ∧ f 13 = (.d (.int .i64 v32)) ∧ st' = st ++ [(.box [(.ex []), (.ex []), (.ex []), (.ex []), (.ex []), (.ex [])]), (.box [(.own (st.length + 2) w2), (.own (st.length + 3) w4), (.own (st.length + 4) w6), (.own (st.length + 5) w26), (.own (st.length + 6) w28), (.own (st.length + 7) w30)]), (.row AV w2 (List.map TE.row v3)), (.row Ba w4 (List.map (rI .i64) v5)), (.row Ba w6 (List.map (rI .i64) v7)), (.row AO w26 (List.map TS.row v27)), (.row Ba w28 (List.map (rI .i64) v29)), (.row Ba w30 (List.map (rI .i64) v31))]) n (Ghost.trans (Gm (k := 5) (cells := [(.own (st.length + 2) w2), (.own (st.length + 3) w4), (.own (st.length + 4) w6), (.ex []), (.ex []), (.ex [])]) 1 3 (List.map TS.row ([])) AO 8 rfl rfl rfl rfl rfl (JH TS.row_eq)) (Ghost.trans (Gm (k := 6) (cells := [(.own (st.length + 2) w2), (.own (st.length + 3) w4), (.own (st.length + 4) w6), (.own (st.length + 5) 0), (.ex []), (.ex [])]) 1 4 (List.map (rI .i64) ([])) Ba 1 rfl rfl rfl rfl rfl (JH (fun _ => rfl))) (Gm (k := 7) (cells := [(.own (st.length + 2) w2), (.own (st.length + 3) w4), (.own (st.length + 4) w6), (.own (st.length + 5) 0), (.own (st.length + 6) 0), (.ex [])]) 1 5 (List.map (rI .i64) ([])) Ba 1 rfl rfl rfl rfl rfl (JH (fun _ => rfl))))) ⟨[], [], [], (0 : Int), 0, 0, 0, hr, (em rfl h1), (em rfl h4), (em rfl h5), eh, rfl⟩ ?_
   rintro m f st' ⟨v27, v29, v31, v32, w26, w28, w30, hr, h1, h4, h5, h13, rfl⟩
   cases m with
   | zero => cases hr
   | succ m_2 =>
     rw [Cq] at hr
     generalize hrec_2 : Cq p1 n v3 v5 v7 m_2 = q2 at hr
     rw [HV] at hr
     unfold UR
     refine Al ?_
     refine BD (fun f st' => ∃ (v33 : Bool), FQ p1 n v3 v5 v7 v27 v29 v31 v32 q2 v33 = some r ∧ f 1 = (.d (.sl (List.map TKnot.row p1))) ∧ f 4 = (.ptr (st.length + 0) 0) ∧ f 5 = (.ptr (st.length + 1) 0) ∧ f 13 = (.d (.int .i64 v32)) ∧ f 125 = (.d (.bool v33)) ∧ st' = st ++ [(.box [(.ex []), (.ex []), (.ex []), (.ex []), (.ex []), (.ex [])]), (.box [(.own (st.length + 2) w2), (.own (st.length + 3) w4), (.own (st.length + 4) w6), (.own (st.length + 5) w26), (.own (st.length + 6) w28), (.own (st.length + 7) w30)]), (.row AV w2 (List.map TE.row v3)), (.row Ba w4 (List.map (rI .i64) v5)), (.row Ba w6 (List.map (rI .i64) v7)), (.row AO w26 (List.map TS.row v27)), (.row Ba w28 (List.map (rI .i64) v29)), (.row Ba w30 (List.map (rI .i64) v31))]) ?_ ?_
     · refine Af ?_
       unfold Tw
       refine Ab (e_t h13) (Ab (e_t (em rfl h1)) ?_)
       refine Bh (row := TKnot.row) (AL (e_t eh) Bq) ?_
       refine Ar (e_t (Ac rfl eh)) (e_t eh) (CL ?_)
       refine Ab (e_t eh) ?_
       refine Au eh hr (fun hr => ?_) (fun hr => ?_)
       rotate_left
       · refine Ah eh (Ah (em rfl eh) (Ao (e_t (Ac rfl eh)) e_c (Aa (Ae ?_))))
         exact ⟨false, hr, (Ak rfl (em rfl h1)), (Ak rfl (em rfl h4)), (Ak rfl (em rfl h5)), (Ak rfl (em rfl h13)), eh, rfl⟩
       refine Aj eh (Ab (e_t (Ad rfl (Ac rfl h13))) (Aj (em rfl eh) ?_))
       refine Ar (e_t eh) e_c (CL ?_)
       refine An (e_t (Ac rfl eh)) (e_t eh) (Aa (Ae ?_))
       exact ⟨(decide (v32 < (50 : Int))), hr, (Ak rfl (em rfl h1)), (Ak rfl (em rfl h4)), (Ak rfl (em rfl h5)), (Ak rfl (em rfl h13)), eh, rfl⟩
     rintro f st' ⟨v33, hr, h1, h4, h5, h13, h125, rfl⟩
     rw [FQ] at hr
     refine AC (e_t h125) hr (fun hr => ?_) (fun hr => ?_)
     rotate_left
     · refine CP ?_
       refine A0 ?_
       refine A0 ?_
       refine Ea ?_
       refine Ae (Al (Af ?_))
       unfold UD
       refine BF (e_t h5) ((Am rfl 1).trans rfl) (Nat.le_of_ble_eq_true rfl) (by exact rfl) ?_
       refine Bl (e_t (em rfl h4)) ((Am rfl 0).trans rfl) (e_t eh) Bg rfl (Nat.le_of_ble_eq_true rfl) (by exact rfl) (cells' := [(.own (st.length + 2) w2), (.own (st.length + 3) w4), (.own (st.length + 4) w6), (.own (st.length + 5) w26), (.own (st.length + 6) w28), (.own (st.length + 7) w30)]) (by exact rfl) (Bk rfl _ _) ?_
       refine Aa (Ae (AI ?_))
       cases hr
       exact A7 (GK (em rfl h4) ((Am rfl 0).trans rfl) (Nat.le_of_ble_eq_true rfl) (by exact rfl) AH) (AM (BP (Aq (JB ((Am rfl 2).trans rfl)) (Aq (JB ((Am rfl 3).trans rfl)) (Aq (JB ((Am rfl 4).trans rfl)) (Aq (JB ((Am rfl 5).trans rfl)) (Aq (JB ((Am rfl 6).trans rfl)) (Aq (JB ((Am rfl 7).trans rfl)) Cw))))))) (Wr rfl)) (Av hwf) h
     refine AN (Ae (Al ?_))
     refine AX ?_
     refine Al (Af ?_)
     unfold Tx
     refine Ab (e_t h1) (Ab (e_t (em rfl h13)) ?_)
     refine Bt (row := TKnot.row) (AL (e_t (em rfl eh)) Bq) (e_t eh) hr TKnot.row_eq (fun _ => rfl) (fun v34 hr => ?_)
     refine DH (e_t eh) (Nat.le_of_ble_eq_true rfl) (by exact rfl) ?_
     refine Ci (k := 8) rfl rfl ?_
     refine Bl (e_t eh) ((Am rfl 8).trans rfl) (e_t (em rfl eh)) Bg rfl (Nat.le_of_ble_eq_true rfl) (by exact rfl) (cells' := [(.d (.int .i64 v34.Op)), (.d (.str v34.Name)), (.d (.str v34.Src)), (.d (.int .i64 v34.N)), (.d (.sl (List.map rS v34.Cols))), (.d (.sl (List.map (rI .i64) v34.Exprs))), (.d (.sl (List.map (rI .i64) v34.Body))), (.d (.sl (List.map (rI .i64) v34.Else)))]) (by exact rfl) (Bk rfl _ _) ?_
     refine Aa (Ae (Al (Af ?_)))
     unfold S6
     refine AB (e_t eh) (by exact rfl) ?_
     refine Ap (e_t eh) ((Am rfl 8).trans rfl) (by exact rfl) ?_
     refine AB (e_t (Ac rfl eh)) (by exact rfl) ?_
     refine Ap (e_t eh) ((Am rfl 8).trans rfl) (by exact rfl) ?_
     refine AB (e_t (Ad rfl eh)) (by exact rfl) ?_
     refine Ap (e_t eh) ((Am rfl 8).trans rfl) (by exact rfl) ?_
     refine AB (e_t (Ad rfl (Ac rfl eh))) (by exact rfl) ?_
     refine Ap (e_t eh) ((Am rfl 8).trans rfl) (by exact rfl) ?_
     refine AB (e_t (Ad rfl (Ad rfl eh))) (by exact rfl) ?_
     refine Ap (e_t eh) ((Am rfl 8).trans rfl) (by exact rfl) ?_
     refine Ir (cs := [(.d (.int .i64 v34.Op)), (.d (.str v34.Name)), (.d (.str v34.Src)), (.d (.int .i64 v34.N)), (.d (.sl (List.map rS v34.Cols))), (.ex []), (.ex []), (.ex [])]) (Cl (e_t (Ad rfl (Ad rfl eh))) AZ rfl (Nat.le_of_ble_eq_true rfl) (by exact rfl) (Cl (e_t (Ad rfl (Ac rfl eh))) AZ rfl (Nat.le_of_ble_eq_true rfl) (by exact rfl) (Cl (e_t (Ad rfl eh)) AZ rfl (Nat.le_of_ble_eq_true rfl) (by exact rfl) (Cl (e_t (Ac rfl eh)) AZ rfl (Nat.le_of_ble_eq_true rfl) (by exact rfl) (Cl (e_t eh) AZ rfl (Nat.le_of_ble_eq_true rfl) (by exact rfl) Kp))))) (Ck (e_t (Ad rfl (Ad rfl eh))) AZ (by exact rfl) (Ck (e_t (Ad rfl (Ac rfl eh))) AZ (by exact rfl) (Ck (e_t (Ad rfl eh)) AZ (by exact rfl) (Ck (e_t (Ac rfl eh)) AZ (by exact rfl) (Ck (e_t eh) AZ (by exact rfl) Kt))))) ?_
     refine Ci (k := 9) rfl rfl ?_
     refine Bl (e_t eh) ((Am rfl 9).trans rfl) (e_t (em rfl eh)) Bg rfl (Nat.le_of_ble_eq_true rfl) (by exact rfl) (cells' := [(.d (.int .i64 v34.Op)), (.d (.str v34.Name)), (.d (.str v34.Src)), (.d (.int .i64 v34.N)), (.d (.sl (List.map rS v34.Cols))), (.ex []), (.ex []), (.ex [])]) (by exact rfl) (Bk rfl _ _) ?_
     refine Aa (Ae (Al (Af ?_)))
     unfold TO
     refine Ab e_c (Ab e_c (Aa (Ae ?_)))
     refine BD (fun f st' => ∃ (v36 : (List TE)), ∃ (v37 : Int), ∃ (v38 : Int), ∃ (w35 : Nat), GF n v27 v29 v31 v32 q2 v34 v36 v37 v38 = some r ∧ f 1 = (.d (.sl (List.map TKnot.row p1))) ∧ f 4 = (.ptr (st.length + 0) 0) ∧ f 5 = (.ptr (st.length + 1) 0) ∧ f 13 = (.d (.int .i64 v32)) ∧ f 14 = (.ptr (st.length + 8) 0) ∧ f 15 = (.ptr (st.length + 9) 0) ∧ f 16 = (.d (.int .i64 v37)) ∧ f 17 = (.d (.int .i64 v38)) ∧ st' = st ++ [(.box [(.ex []), (.ex []), (.ex []), (.ex []), (.ex []), (.ex [])]), (.box [(.own (st.length + 2) w2), (.own (st.length + 3) w4), (.own (st.length + 4) w6), (.own (st.length + 5) w26), (.own (st.length + 6) w28), (.own (st.length + 7) w30)]), (.row AV w2 (List.map TE.row v3)), (.row Ba w4 (List.map (rI .i64) v5)), (.row Ba w6 (List.map (rI .i64) v7)), (.row AO w26 (List.map TS.row v27)), (.row Ba w28 (List.map (rI .i64) v29)), (.row Ba w30 (List.map (rI .i64) v31)), (.box [(.d (.int .i64 v34.Op)), (.d (.str v34.Name)), (.d (.str v34.Src)), (.d (.int .i64 v34.N)), (.d (.sl (List.map rS v34.Cols))), (.d (.sl (List.map (rI .i64) v34.Exprs))), (.d (.sl (List.map (rI .i64) v34.Body))), (.d (.sl (List.map (rI .i64) v34.Else)))]), (.box [(.d (.int .i64 v34.Op)), (.d (.str v34.Name)), (.d (.str v34.Src)), (.d (.int .i64 v34.N)), (.d (.sl (List.map rS v34.Cols))), (.own (st.length + 10) w35), (.ex []), (.ex [])]), (.row AV w35 (List.map TE.row v36))]) ?_ ?_
     · refine Al (Af ?_)
       unfold Tt
       refine Ab e_c (Aa (Ae ?_))
       refine AX ?_
       refine Ca (fun m f st' => ∃ (v36 : (List TE)), ∃ (v37 : Int), ∃ (v38 : Int), ∃ (v39 : Int), ∃ (w35 : Nat), CE n v3 v5 v7 v27 v29 v31 v32 q2 v34 m v36 v37 v38 v39 = some r ∧ f 1 = (.d (.sl (List.map TKnot.row p1))) ∧ f 4 = (.ptr (st.length + 0) 0) ∧ f 5 = (.ptr (st.length + 1) 0) ∧ f 13 = (.d (.int .i64 v32)) ∧ f 14 = (.ptr (st.length + 8) 0) ∧ f 15 = (.ptr (st.length + 9) 0) ∧ f 16 = (.d (.int .i64 v37)) ∧ f 17 = (.d (.int .i64 v38)) ∧ f 18 = (.d (.int .i64 v39)) ∧ st' = st ++ [(.box [(.ex []), (.ex []), (.ex []), (.ex []), (.ex []), (.ex [])]), (.box [(.own (st.length + 2) w2), (.own (st.length + 3) w4), (.own (st.length + 4) w6), (.own (st.length + 5) w26), (.own (st.length + 6) w28), (.own (st.length + 7) w30)]), (.row AV w2 (List.map TE.row v3)), (.row Ba w4 (List.map (rI .i64) v5)), (.row Ba w6 (List.map (rI .i64) v7)), (.row AO w26 (List.map TS.row v27)), (.row Ba w28 (List.map (rI .i64) v29)), (.row Ba w30 (List.map (rI .i64) v31)), (.box [(.d (.int .i64 v34.Op)), (.d (.str v34.Name)), (.d (.str v34.Src)), (.d (.int .i64 v34.N)), (.d (.sl (List.map rS v34.Cols))), (.d (.sl (List.map (rI .i64) v34.Exprs))), (.d (.sl (List.map (rI .i64) v34.Body))), (.d (.sl (List.map (rI .i64) v34.Else)))]), (.box [(.d (.int .i64 v34.Op)), (.d (.str v34.Name)), (.d (.str v34.Src)), (.d (.int .i64 v34.N)), (.d (.sl (List.map rS v34.Cols))), (.own (st.length + 10) w35), (.ex []), (.ex [])]), (.row AV w35 (List.map TE.row v36))]) n (Gm (k := 10) (cells := [(.d (.int .i64 v34.Op)), (.d (.str v34.Name)), (.d (.str v34.Src)), (.d (.int .i64 v34.N)), (.d (.sl (List.map rS v34.Cols))), (.ex []), (.ex []), (.ex [])]) 9 5 (List.map TE.row ([])) AV 6 rfl rfl rfl rfl rfl (JH TE.row_eq)) ⟨[], (1 : Int), (1 : Int), (0 : Int), 0, hr, (Ai rfl (Ad rfl h1)), (Ai rfl (Ad rfl h4)), (Ai rfl (Ad rfl h5)), (Ai rfl (Ad rfl h13)), (Ak rfl (Ad rfl (Ac rfl (em rfl eh)))), (Ac rfl (em rfl eh)), (Ac rfl eh), (em rfl eh), eh, rfl⟩ ?_
       rintro m f st' ⟨v36, v37, v38, v39, w35, hr, h1, h4, h5, h13, h14, h15, h16, h17, h18, rfl⟩
       cases m with
       | zero => cases hr
       | succ m_4 =>
         rw [CE] at hr
         generalize hrec_4 : CE n v3 v5 v7 v27 v29 v31 v32 q2 v34 m_4 = q4 at hr
         rw [HJ] at hr
         unfold UY
         refine Al ?_
         refine BD (fun f st' => ∃ (v40 : Bool), E9 n v3 v5 v7 v27 v29 v31 v32 q2 v34 v36 v37 v38 v39 q4 v40 = some r ∧ f 1 = (.d (.sl (List.map TKnot.row p1))) ∧ f 4 = (.ptr (st.length + 0) 0) ∧ f 5 = (.ptr (st.length + 1) 0) ∧ f 13 = (.d (.int .i64 v32)) ∧ f 14 = (.ptr (st.length + 8) 0) ∧ f 15 = (.ptr (st.length + 9) 0) ∧ f 16 = (.d (.int .i64 v37)) ∧ f 17 = (.d (.int .i64 v38)) ∧ f 18 = (.d (.int .i64 v39)) ∧ f 151 = (.d (.bool v40)) ∧ st' = st ++ [(.box [(.ex []), (.ex []), (.ex []), (.ex []), (.ex []), (.ex [])]), (.box [(.own (st.length + 2) w2), (.own (st.length + 3) w4), (.own (st.length + 4) w6), (.own (st.length + 5) w26), (.own (st.length + 6) w28), (.own (st.length + 7) w30)]), (.row AV w2 (List.map TE.row v3)), (.row Ba w4 (List.map (rI .i64) v5)), (.row Ba w6 (List.map (rI .i64) v7)), (.row AO w26 (List.map TS.row v27)), (.row Ba w28 (List.map (rI .i64) v29)), (.row Ba w30 (List.map (rI .i64) v31)), (.box [(.d (.int .i64 v34.Op)), (.d (.str v34.Name)), (.d (.str v34.Src)), (.d (.int .i64 v34.N)), (.d (.sl (List.map rS v34.Cols))), (.d (.sl (List.map (rI .i64) v34.Exprs))), (.d (.sl (List.map (rI .i64) v34.Body))), (.d (.sl (List.map (rI .i64) v34.Else)))]), (.box [(.d (.int .i64 v34.Op)), (.d (.str v34.Name)), (.d (.str v34.Src)), (.d (.int .i64 v34.N)), (.d (.sl (List.map rS v34.Cols))), (.own (st.length + 10) w35), (.ex []), (.ex [])]), (.row AV w35 (List.map TE.row v36))]) ?_ ?_
         · refine Af ?_
           unfold Vc
           refine Ab (e_t h18) ?_
           refine AB (e_t (em rfl h14)) (by exact rfl) ?_
           refine Ap (e_t eh) ((Am rfl 8).trans rfl) (by exact rfl) ?_
           refine Bh (row := (rI .i64)) (AL (e_t eh) Bq) ?_
           refine Ar (e_t (Ac rfl (em rfl eh))) (e_t eh) (CL ?_)
           refine Ab (e_t eh) ?_
           refine Au eh hr (fun hr => ?_) (fun hr => ?_)
           rotate_left
           · refine Ah eh (Ah (em rfl eh) (Ao (e_t (Ac rfl eh)) e_c (Aa (Ae ?_))))
             exact ⟨false, hr, (Ak rfl (Ac rfl h1)), (Ak rfl (Ac rfl h4)), (Ak rfl (Ac rfl h5)), (Ak rfl (Ac rfl h13)), (Ak rfl (Ac rfl h14)), (Ak rfl (Ac rfl h15)), (Ak rfl (Ac rfl h16)), (Ak rfl (Ac rfl h17)), (Ak rfl (Ac rfl h18)), eh, rfl⟩
           refine Aj eh (Ab (e_t (Ad rfl (Ac rfl (em rfl h18)))) (Aj (em rfl eh) ?_))
           refine Ar (e_t eh) e_c (CL ?_)
           refine An (e_t (Ac rfl eh)) (e_t eh) (Aa (Ae ?_))
           exact ⟨(decide (v39 < (10 : Int))), hr, (Ak rfl (Ac rfl h1)), (Ak rfl (Ac rfl h4)), (Ak rfl (Ac rfl h5)), (Ak rfl (Ac rfl h13)), (Ak rfl (Ac rfl h14)), (Ak rfl (Ac rfl h15)), (Ak rfl (Ac rfl h16)), (Ak rfl (Ac rfl h17)), (Ak rfl (Ac rfl h18)), eh, rfl⟩
         rintro f st' ⟨v40, hr, h1, h4, h5, h13, h14, h15, h16, h17, h18, h151, rfl⟩
         rw [E9] at hr
         refine AC (e_t h151) hr (fun hr => ?_) (fun hr => ?_)
         rotate_left
         · refine CP ?_
           refine A0 ?_
           refine A0 ?_
           refine Ea ?_
           refine Ae ?_
           exact ⟨v36, v37, v38, w35, hr, h1, h4, h5, h13, h14, h15, h16, h17, rfl⟩
         refine AN (Ae (Al ?_))
         refine AX ?_
         refine Al ?_
         refine DI (k := 11) rfl rfl ?_
         unfold Ta
         refine AB (e_t h14) (by exact rfl) ?_
         refine Ap (e_t eh) ((Am rfl 8).trans rfl) (by exact rfl) ?_
         refine Ab (e_t (Ac rfl h18)) ?_
         refine Bt (row := (rI .i64)) (AL (e_t (em rfl eh)) Bq) (e_t eh) hr (fun _ => rfl) (fun _ => rfl) (fun v41 hr => ?_)
         refine BG (e_t eh) (by exact rfl) ?_
         refine AB (e_t (Ad rfl (em rfl h5))) (by exact rfl) ?_
         refine Ap (e_t eh) ((Am rfl 1).trans rfl) (by exact rfl) ?_
         refine Bh (row := TE.row) (AL (e_t eh) (Iz ((Am rfl 2).trans rfl))) ?_
         obtain ⟨v42, hc_v42, hr⟩ := bind_some hr
         refine AL3 (Ay (e_t (Ac rfl (em rfl eh))) AG (Ay (e_t eh) AG AR)) (fun st2 => Xp v41 (v3.length : Int) hc_v42 ⟨rfl, rfl⟩) ?_
         refine Ab (e_t eh) (Aa (Ae (Al (Af ?_))))
         unfold Uj
         refine Ab (e_t eh) ?_
         refine Ar (e_t eh) e_c (ET ?_)
         refine Aa (Ae ?_)
         refine AC (e_t eh) hr (fun hr => ?_) (fun hr => ?_)
         rotate_left
         · refine AN ?_
           refine BA ?_
           refine Ae (Af ?_)
           unfold OP
           refine Ab (e_t (Ak rfl (Ad rfl h18))) ?_
           refine Ar (e_t eh) e_c (BX ?_)
           refine Ab (e_t eh) (Aa (Ae ?_))
           exact ⟨m_4, _, Nat.lt_succ_self m_4, Ghost.cut _ (st.length + 11) (Nat.le_add_right _ _), v36, v37, v38, (IntKind.wrap .i64 (v39 + (1 : Int))), w35, (by rw [hrec_4]; exact hr), ((congrArg (cutV _) (Ak rfl (Ad rfl (Ac rfl (em rfl h1))))).trans (v_d)), ((congrArg (cutV _) (Ak rfl (Ad rfl (Ac rfl (em rfl h4))))).trans (by simp [cutV, AJ])), ((congrArg (cutV _) (Ak rfl (Ad rfl (Ac rfl (em rfl h5))))).trans (by simp [cutV, AJ])), ((congrArg (cutV _) (Ak rfl (Ad rfl (Ac rfl (em rfl h13))))).trans (v_d)), ((congrArg (cutV _) (Ak rfl (Ad rfl (Ac rfl (em rfl h14))))).trans (by simp [cutV, AJ])), ((congrArg (cutV _) (Ak rfl (Ad rfl (Ac rfl (em rfl h15))))).trans (by simp [cutV, AJ])), ((congrArg (cutV _) (Ak rfl (Ad rfl (Ac rfl (em rfl h16))))).trans (v_d)), ((congrArg (cutV _) (Ak rfl (Ad rfl (Ac rfl (em rfl h17))))).trans (v_d)), ((congrArg (cutV _) eh).trans (v_d)), (EO (l0 := [(.box [(.ex []), (.ex []), (.ex []), (.ex []), (.ex []), (.ex [])]), (.box [(.own (st.length + 2) w2), (.own (st.length + 3) w4), (.own (st.length + 4) w6), (.own (st.length + 5) w26), (.own (st.length + 6) w28), (.own (st.length + 7) w30)]), (.row AV w2 (List.map TE.row v3)), (.row Ba w4 (List.map (rI .i64) v5)), (.row Ba w6 (List.map (rI .i64) v7)), (.row AO w26 (List.map TS.row v27)), (.row Ba w28 (List.map (rI .i64) v29)), (.row Ba w30 (List.map (rI .i64) v31)), (.box [(.d (.int .i64 v34.Op)), (.d (.str v34.Name)), (.d (.str v34.Src)), (.d (.int .i64 v34.N)), (.d (.sl (List.map rS v34.Cols))), (.d (.sl (List.map (rI .i64) v34.Exprs))), (.d (.sl (List.map (rI .i64) v34.Body))), (.d (.sl (List.map (rI .i64) v34.Else)))]), (.box [(.d (.int .i64 v34.Op)), (.d (.str v34.Name)), (.d (.str v34.Src)), (.d (.int .i64 v34.N)), (.d (.sl (List.map rS v34.Cols))), (.own (st.length + 10) w35), (.ex []), (.ex [])]), (.row AV w35 (List.map TE.row v36))]) (l1 := _) hwf rfl rfl (by simp [Ka, cutV, AJ, AJ.belowL]))⟩
         refine Al ?_
         refine DI (k := 12) rfl rfl ?_
         unfold US
         refine AB (e_t (Ak rfl (Ad rfl h15))) (by exact rfl) ?_
         refine Ap (e_t eh) ((Am rfl 9).trans rfl) (by exact rfl) ?_
         refine AB (e_t (Ak rfl (Ad rfl (Ac rfl h5)))) (by exact rfl) ?_
         refine Ap (e_t eh) ((Am rfl 1).trans rfl) (by exact rfl) ?_
         refine Ab (e_t (Ad rfl (Ac rfl eh))) ?_
         refine Bt (row := TE.row) (AL (e_t (em rfl eh)) (Iz ((Am rfl 2).trans rfl))) (e_t eh) hr TE.row_eq (fun _ => rfl) (fun v43 hr => ?_)
         refine DH (e_t eh) (Nat.le_of_ble_eq_true rfl) (by exact rfl) ?_
         refine CX (rows := List.map TE.row [v43]) (JU (by simp only [List.map, TE.row_eq]) (AE (e_t eh) Bg (As f_d (As f_d (As f_d (As f_d (As f_d (As f_d AK)))))) rfl DV)) ?_
         refine Hg (row := TE.row) (AL (e_t eh) KJ) TE.row_eq (fun _ => rfl) (e_t (Ad rfl (Ac rfl eh))) ((Am rfl 10).trans rfl) (fun _ => (Bk rfl _ _)) hr (fun v44 hr => ?_)
         refine AB (e_t (Ai rfl (Ad rfl (em rfl h15)))) (by exact rfl) ?_
         refine Bl (e_t eh) ((Am rfl 9).trans rfl) (e_t (em rfl eh)) rfl rfl (Nat.le_of_ble_eq_true rfl) (by exact rfl) (cells' := [(.d (.int .i64 v34.Op)), (.d (.str v34.Name)), (.d (.str v34.Src)), (.d (.int .i64 v34.N)), (.d (.sl (List.map rS v34.Cols))), (.own (st.length + 10) (w35 + 1)), (.ex []), (.ex [])]) (by exact rfl) (Bk rfl _ _) ?_
         refine Aa (Ae (Al (Af ?_)))
         unfold UZ
         refine Ab (e_t (Ai rfl (Ad rfl (Ac rfl h16)))) ?_
         refine AB (e_t (Ai rfl (Ad rfl (Ac rfl (em rfl h5))))) (by exact rfl) ?_
         refine Ap (e_t eh) ((Am rfl 1).trans rfl) (by exact rfl) ?_
         refine Ab (e_t (Ak rfl (Ad rfl (Ac rfl (em rfl eh))))) ?_
         refine Bt (row := (rI .i64)) (AL (e_t (em rfl eh)) (Iz ((Am rfl 3).trans rfl))) (e_t eh) hr (fun _ => rfl) (fun _ => rfl) (fun v45 hr => ?_)
         refine BG (e_t eh) (by exact rfl) ?_
         refine Ar (e_t (Ad rfl (em rfl eh))) (e_t eh) (BX ?_)
         refine Ab (e_t eh) (Aa (Ae (Af ?_)))
         unfold SQ
         refine Ab (e_t (Ai rfl (Ak rfl (Ad rfl (Ac rfl h17))))) ?_
         refine AB (e_t (Ai rfl (Ak rfl (Ad rfl (Ac rfl (em rfl h5)))))) (by exact rfl) ?_
         refine Ap (e_t eh) ((Am rfl 1).trans rfl) (by exact rfl) ?_
         refine Ab (e_t (Ai rfl (Ad rfl (Ac rfl (em rfl eh))))) ?_
         refine Bt (row := (rI .i64)) (AL (e_t (em rfl eh)) (Iz ((Am rfl 4).trans rfl))) (e_t eh) hr (fun _ => rfl) (fun _ => rfl) (fun v46 hr => ?_)
         refine BG (e_t eh) (by exact rfl) ?_
         refine Ar (e_t eh) e_c (BX ?_)
         refine Zg (e_t (Ad rfl (Ac rfl eh))) (Zh (e_t eh) (PW ?_))
         refine Ab (e_t eh) (Aa ?_)
         refine BA ?_
         refine Ae (Af ?_)
         unfold OP
         refine Ab (e_t (Ai rfl (Ai rfl (Ad rfl (Ac rfl (em rfl h18)))))) ?_
         refine Ar (e_t eh) e_c (BX ?_)
         refine Ab (e_t eh) (Aa (Ae ?_))
         exact ⟨m_4, _, Nat.lt_succ_self m_4, Ghost.cut _ (st.length + 11) (Nat.le_add_right _ _), v44, (IntKind.wrap .i64 (v37 + v45)), (max v38 (IntKind.wrap .i64 (v46 + (1 : Int)))), (IntKind.wrap .i64 (v39 + (1 : Int))), (w35 + 1), (by rw [hrec_4]; exact hr), ((congrArg (cutV _) (Ai rfl (Ai rfl (Ak rfl (Ac rfl h1))))).trans (v_d)), ((congrArg (cutV _) (Ai rfl (Ai rfl (Ak rfl (Ac rfl h4))))).trans (by simp [cutV, AJ])), ((congrArg (cutV _) (Ai rfl (Ai rfl (Ak rfl (Ac rfl h5))))).trans (by simp [cutV, AJ])), ((congrArg (cutV _) (Ai rfl (Ai rfl (Ak rfl (Ac rfl h13))))).trans (v_d)), ((congrArg (cutV _) (Ai rfl (Ai rfl (Ak rfl (Ac rfl h14))))).trans (by simp [cutV, AJ])), ((congrArg (cutV _) (Ai rfl (Ai rfl (Ak rfl (Ac rfl h15))))).trans (by simp [cutV, AJ])), ((congrArg (cutV _) (Ak rfl (Ad rfl eh))).trans (v_d)), ((congrArg (cutV _) (Ac rfl (em rfl eh))).trans (v_d)), ((congrArg (cutV _) eh).trans (v_d)), (EO (l0 := [(.box [(.ex []), (.ex []), (.ex []), (.ex []), (.ex []), (.ex [])]), (.box [(.own (st.length + 2) w2), (.own (st.length + 3) w4), (.own (st.length + 4) w6), (.own (st.length + 5) w26), (.own (st.length + 6) w28), (.own (st.length + 7) w30)]), (.row AV w2 (List.map TE.row v3)), (.row Ba w4 (List.map (rI .i64) v5)), (.row Ba w6 (List.map (rI .i64) v7)), (.row AO w26 (List.map TS.row v27)), (.row Ba w28 (List.map (rI .i64) v29)), (.row Ba w30 (List.map (rI .i64) v31)), (.box [(.d (.int .i64 v34.Op)), (.d (.str v34.Name)), (.d (.str v34.Src)), (.d (.int .i64 v34.N)), (.d (.sl (List.map rS v34.Cols))), (.d (.sl (List.map (rI .i64) v34.Exprs))), (.d (.sl (List.map (rI .i64) v34.Body))), (.d (.sl (List.map (rI .i64) v34.Else)))]), (.box [(.d (.int .i64 v34.Op)), (.d (.str v34.Name)), (.d (.str v34.Src)), (.d (.int .i64 v34.N)), (.d (.sl (List.map rS v34.Cols))), (.own (st.length + 10) (w35 + 1)), (.ex []), (.ex [])]), (.row AV (w35 + 1) (List.map TE.row v44))]) (l1 := _) hwf rfl rfl (by simp [Ka, cutV, AJ, AJ.belowL]))⟩
     rintro f st' ⟨v36, v37, v38, w35, hr, h1, h4, h5, h13, h14, h15, h16, h17, rfl⟩
     rw [GF] at hr
     refine BD (fun f st' => ∃ (v48 : (List TS)), ∃ (v50 : (List TS)), ∃ (v51 : Int), ∃ (v52 : Int), ∃ (w47 : Nat), ∃ (w49 : Nat), Gs v27 v29 v31 v32 q2 v34 v36 v48 v50 v51 v52 = some r ∧ f 1 = (.d (.sl (List.map TKnot.row p1))) ∧ f 4 = (.ptr (st.length + 0) 0) ∧ f 5 = (.ptr (st.length + 1) 0) ∧ f 13 = (.d (.int .i64 v32)) ∧ f 15 = (.ptr (st.length + 9) 0) ∧ f 16 = (.d (.int .i64 v51)) ∧ f 17 = (.d (.int .i64 v52)) ∧ st' = st ++ [(.box [(.ex []), (.ex []), (.ex []), (.ex []), (.ex []), (.ex [])]), (.box [(.own (st.length + 2) w2), (.own (st.length + 3) w4), (.own (st.length + 4) w6), (.own (st.length + 5) w26), (.own (st.length + 6) w28), (.own (st.length + 7) w30)]), (.row AV w2 (List.map TE.row v3)), (.row Ba w4 (List.map (rI .i64) v5)), (.row Ba w6 (List.map (rI .i64) v7)), (.row AO w26 (List.map TS.row v27)), (.row Ba w28 (List.map (rI .i64) v29)), (.row Ba w30 (List.map (rI .i64) v31)), (.box [(.d (.int .i64 v34.Op)), (.d (.str v34.Name)), (.d (.str v34.Src)), (.d (.int .i64 v34.N)), (.d (.sl (List.map rS v34.Cols))), (.d (.sl (List.map (rI .i64) v34.Exprs))), (.d (.sl (List.map (rI .i64) v34.Body))), (.d (.sl (List.map (rI .i64) v34.Else)))]), (.box [(.d (.int .i64 v34.Op)), (.d (.str v34.Name)), (.d (.str v34.Src)), (.d (.int .i64 v34.N)), (.d (.sl (List.map rS v34.Cols))), (.own (st.length + 10) w35), (.own (st.length + 11) w47), (.own (st.length + 12) w49)]), (.row AV w35 (List.map TE.row v36)), (.row AO w47 (List.map TS.row v48)), (.row AO w49 (List.map TS.row v50))]) ?_ ?_
     rotate_left
     · rintro f st' ⟨v48, v50, v51, v52, w47, w49, hr, h1, h4, h5, h13, h15, h16, h17, rfl⟩
       rw [Gs] at hr
       refine Al (Af ?_)
       unfold TB
       refine Ab (e_t h16) (Ab (e_t (em rfl h17)) ?_)
       refine AP (Ay (e_t (em rfl eh)) AG (Ay (e_t eh) AG AR)) ?_
       refine Aj8 v51 v52 rfl ?_
       refine Ab (e_t eh) ?_
       refine GZ (e_t eh) (by exact rfl) ?_
       refine GZ (e_t (em rfl eh)) (by exact rfl) ?_
       refine Ab (e_t (em rfl eh)) (Ab (e_t (em rfl eh)) (Aa (Ae (Al (Af ?_)))))
       unfold U1
       refine AB (e_t (Ad rfl (Ad rfl h5))) (by exact rfl) ?_
       refine Ap (e_t eh) ((Am rfl 1).trans rfl) (by exact rfl) ?_
       refine BF (e_t (Ak rfl (Ac rfl h15))) ((Am rfl 9).trans rfl) (Nat.le_of_ble_eq_true rfl) (by exact rfl) ?_
       refine CX (rows := List.map TS.row [(⟨v34.Op, v34.Name, v34.Src, v34.N, v34.Cols, v36, v48, v50⟩ : TS)]) (JU (by simp only [List.map, TS.row_eq]) (AE (e_t eh) Bg (As f_d (As f_d (As f_d (As f_d (As f_d (As (JB ((Am rfl 10).trans rfl)) (As (JB ((Am rfl 11).trans rfl)) (As (JB ((Am rfl 12).trans rfl)) AK)))))))) rfl DV)) ?_
       refine Hg (row := TS.row) (AL (e_t eh) KJ) TS.row_eq (fun _ => rfl) (e_t (Ac rfl eh)) ((Am rfl 5).trans rfl) (fun _ => (Bk rfl _ _)) hr (fun v66 hr => ?_)
       refine AB (e_t (Ak rfl (Ad rfl (em rfl h5)))) (by exact rfl) ?_
       refine Bl (e_t eh) ((Am rfl 1).trans rfl) (e_t (em rfl eh)) rfl rfl (Nat.le_of_ble_eq_true rfl) (by exact rfl) (cells' := [(.own (st.length + 2) w2), (.own (st.length + 3) w4), (.own (st.length + 4) w6), (.own (st.length + 5) (w26 + 1)), (.own (st.length + 6) w28), (.own (st.length + 7) w30)]) (by exact rfl) (Bk rfl _ _) ?_
       refine Aa (Ae (Al (Af ?_)))
       unfold UA
       refine AB (e_t (Ak rfl (Ad rfl (Ac rfl h5)))) (by exact rfl) ?_
       refine Ap (e_t eh) ((Am rfl 1).trans rfl) (by exact rfl) ?_
       refine Ab (e_t (Ak rfl (em rfl eh))) ?_
       refine CX (rows := List.map (rI .i64) [(Du v51 v52).1]) ((AE (e_t eh) AZ (As f_d AK) rfl DV)) ?_
       refine Hg (row := (rI .i64)) (AL (e_t eh) KJ) (fun _ => rfl) (fun _ => rfl) (e_t (Ac rfl eh)) ((Am rfl 6).trans rfl) (fun _ => (Bk rfl _ _)) hr (fun v67 hr => ?_)
       refine AB (e_t (Ai rfl (Ac rfl (em rfl h5)))) (by exact rfl) ?_
       refine Bl (e_t eh) ((Am rfl 1).trans rfl) (e_t (em rfl eh)) rfl rfl (Nat.le_of_ble_eq_true rfl) (by exact rfl) (cells' := [(.own (st.length + 2) w2), (.own (st.length + 3) w4), (.own (st.length + 4) w6), (.own (st.length + 5) (w26 + 1)), (.own (st.length + 6) (w28 + 1)), (.own (st.length + 7) w30)]) (by exact rfl) (Bk rfl _ _) ?_
       refine Aa (Ae (Af ?_))
       unfold Su
       refine AB (e_t (Ai rfl (Ad rfl h5))) (by exact rfl) ?_
       refine Ap (e_t eh) ((Am rfl 1).trans rfl) (by exact rfl) ?_
       refine Ab (e_t (Ak rfl (Ad rfl (Ac rfl eh)))) ?_
       refine CX (rows := List.map (rI .i64) [(Du v51 v52).2]) ((AE (e_t eh) AZ (As f_d AK) rfl DV)) ?_
       refine Hg (row := (rI .i64)) (AL (e_t eh) KJ) (fun _ => rfl) (fun _ => rfl) (e_t (Ac rfl eh)) ((Am rfl 7).trans rfl) (fun _ => (Bk rfl _ _)) hr (fun v68 hr => ?_)
       refine AB (e_t (Ai rfl (Ak rfl (em rfl h5)))) (by exact rfl) ?_
       refine Bl (e_t eh) ((Am rfl 1).trans rfl) (e_t (em rfl eh)) rfl rfl (Nat.le_of_ble_eq_true rfl) (by exact rfl) (cells' := [(.own (st.length + 2) w2), (.own (st.length + 3) w4), (.own (st.length + 4) w6), (.own (st.length + 5) (w26 + 1)), (.own (st.length + 6) (w28 + 1)), (.own (st.length + 7) (w30 + 1))]) (by exact rfl) (Bk rfl _ _) ?_
       refine Aa ?_
       refine BA ?_
       refine Ae (Af ?_)
       unfold Tl
       refine Ab (e_t (Ai rfl (Ak rfl (Ac rfl h13)))) ?_
       refine Ar (e_t eh) e_c (BX ?_)
       refine Ab (e_t eh) (Aa (Ae ?_))
       exact ⟨m_2, _, Nat.lt_succ_self m_2, Ghost.cut _ (st.length + 8) (Nat.le_add_right _ _), v66, v67, v68, (IntKind.wrap .i64 (v32 + (1 : Int))), (w26 + 1), (w28 + 1), (w30 + 1), (by rw [hrec_2]; exact hr), ((congrArg (cutV _) (Ai rfl (Ak rfl (Ad rfl (em rfl h1))))).trans (v_d)), ((congrArg (cutV _) (Ai rfl (Ak rfl (Ad rfl (em rfl h4))))).trans (by simp [cutV, AJ])), ((congrArg (cutV _) (Ai rfl (Ak rfl (Ad rfl (em rfl h5))))).trans (by simp [cutV, AJ])), ((congrArg (cutV _) eh).trans (v_d)), (EO (l0 := [(.box [(.ex []), (.ex []), (.ex []), (.ex []), (.ex []), (.ex [])]), (.box [(.own (st.length + 2) w2), (.own (st.length + 3) w4), (.own (st.length + 4) w6), (.own (st.length + 5) (w26 + 1)), (.own (st.length + 6) (w28 + 1)), (.own (st.length + 7) (w30 + 1))]), (.row AV w2 (List.map TE.row v3)), (.row Ba w4 (List.map (rI .i64) v5)), (.row Ba w6 (List.map (rI .i64) v7)), (.row AO (w26 + 1) (List.map TS.row v66)), (.row Ba (w28 + 1) (List.map (rI .i64) v67)), (.row Ba (w30 + 1) (List.map (rI .i64) v68))]) (l1 := _) hwf rfl rfl (by simp [Ka, cutV, AJ, AJ.belowL]))⟩
     refine Al (Af ?_)
     unfold Tu
     refine Ab e_c (Aa (Ae ?_))
     refine AX ?_
     refine Ca (fun m f st' => ∃ (v48 : (List TS)), ∃ (v50 : (List TS)), ∃ (v51 : Int), ∃ (v52 : Int), ∃ (v53 : Int), ∃ (w47 : Nat), ∃ (w49 : Nat), Cd v27 v29 v31 v32 q2 v34 v36 m v48 v50 v51 v52 v53 = some r ∧ f 1 = (.d (.sl (List.map TKnot.row p1))) ∧ f 4 = (.ptr (st.length + 0) 0) ∧ f 5 = (.ptr (st.length + 1) 0) ∧ f 13 = (.d (.int .i64 v32)) ∧ f 14 = (.ptr (st.length + 8) 0) ∧ f 15 = (.ptr (st.length + 9) 0) ∧ f 16 = (.d (.int .i64 v51)) ∧ f 17 = (.d (.int .i64 v52)) ∧ f 20 = (.d (.int .i64 v53)) ∧ st' = st ++ [(.box [(.ex []), (.ex []), (.ex []), (.ex []), (.ex []), (.ex [])]), (.box [(.own (st.length + 2) w2), (.own (st.length + 3) w4), (.own (st.length + 4) w6), (.own (st.length + 5) w26), (.own (st.length + 6) w28), (.own (st.length + 7) w30)]), (.row AV w2 (List.map TE.row v3)), (.row Ba w4 (List.map (rI .i64) v5)), (.row Ba w6 (List.map (rI .i64) v7)), (.row AO w26 (List.map TS.row v27)), (.row Ba w28 (List.map (rI .i64) v29)), (.row Ba w30 (List.map (rI .i64) v31)), (.box [(.d (.int .i64 v34.Op)), (.d (.str v34.Name)), (.d (.str v34.Src)), (.d (.int .i64 v34.N)), (.d (.sl (List.map rS v34.Cols))), (.d (.sl (List.map (rI .i64) v34.Exprs))), (.d (.sl (List.map (rI .i64) v34.Body))), (.d (.sl (List.map (rI .i64) v34.Else)))]), (.box [(.d (.int .i64 v34.Op)), (.d (.str v34.Name)), (.d (.str v34.Src)), (.d (.int .i64 v34.N)), (.d (.sl (List.map rS v34.Cols))), (.own (st.length + 10) w35), (.own (st.length + 11) w47), (.own (st.length + 12) w49)]), (.row AV w35 (List.map TE.row v36)), (.row AO w47 (List.map TS.row v48)), (.row AO w49 (List.map TS.row v50))]) n (Ghost.trans (Gm (k := 11) (cells := [(.d (.int .i64 v34.Op)), (.d (.str v34.Name)), (.d (.str v34.Src)), (.d (.int .i64 v34.N)), (.d (.sl (List.map rS v34.Cols))), (.own (st.length + 10) w35), (.ex []), (.ex [])]) 9 6 (List.map TS.row ([])) AO 8 rfl rfl rfl rfl rfl (JH TS.row_eq)) (Gm (k := 12) (cells := [(.d (.int .i64 v34.Op)), (.d (.str v34.Name)), (.d (.str v34.Src)), (.d (.int .i64 v34.N)), (.d (.sl (List.map rS v34.Cols))), (.own (st.length + 10) w35), (.own (st.length + 11) 0), (.ex [])]) 9 7 (List.map TS.row ([])) AO 8 rfl rfl rfl rfl rfl (JH TS.row_eq))) ⟨[], [], v37, v38, (0 : Int), 0, 0, hr, (em rfl h1), (em rfl h4), (em rfl h5), (em rfl h13), (em rfl h14), (em rfl h15), (em rfl h16), (em rfl h17), eh, rfl⟩ ?_
     rintro m f st' ⟨v48, v50, v51, v52, v53, w47, w49, hr, h1, h4, h5, h13, h14, h15, h16, h17, h20, rfl⟩
     cases m with
     | zero => cases hr
     | succ m_3 =>
       rw [Cd] at hr
       generalize hrec_3 : Cd v27 v29 v31 v32 q2 v34 v36 m_3 = q3 at hr
       rw [HP] at hr
       unfold UH
       refine Al ?_
       refine BD (fun f st' => ∃ (v54 : Bool), EY v27 v29 v31 v32 q2 v34 v36 q3 v48 v50 v51 v52 v53 v54 = some r ∧ f 1 = (.d (.sl (List.map TKnot.row p1))) ∧ f 4 = (.ptr (st.length + 0) 0) ∧ f 5 = (.ptr (st.length + 1) 0) ∧ f 13 = (.d (.int .i64 v32)) ∧ f 14 = (.ptr (st.length + 8) 0) ∧ f 15 = (.ptr (st.length + 9) 0) ∧ f 16 = (.d (.int .i64 v51)) ∧ f 17 = (.d (.int .i64 v52)) ∧ f 20 = (.d (.int .i64 v53)) ∧ f 202 = (.d (.bool v54)) ∧ st' = st ++ [(.box [(.ex []), (.ex []), (.ex []), (.ex []), (.ex []), (.ex [])]), (.box [(.own (st.length + 2) w2), (.own (st.length + 3) w4), (.own (st.length + 4) w6), (.own (st.length + 5) w26), (.own (st.length + 6) w28), (.own (st.length + 7) w30)]), (.row AV w2 (List.map TE.row v3)), (.row Ba w4 (List.map (rI .i64) v5)), (.row Ba w6 (List.map (rI .i64) v7)), (.row AO w26 (List.map TS.row v27)), (.row Ba w28 (List.map (rI .i64) v29)), (.row Ba w30 (List.map (rI .i64) v31)), (.box [(.d (.int .i64 v34.Op)), (.d (.str v34.Name)), (.d (.str v34.Src)), (.d (.int .i64 v34.N)), (.d (.sl (List.map rS v34.Cols))), (.d (.sl (List.map (rI .i64) v34.Exprs))), (.d (.sl (List.map (rI .i64) v34.Body))), (.d (.sl (List.map (rI .i64) v34.Else)))]), (.box [(.d (.int .i64 v34.Op)), (.d (.str v34.Name)), (.d (.str v34.Src)), (.d (.int .i64 v34.N)), (.d (.sl (List.map rS v34.Cols))), (.own (st.length + 10) w35), (.own (st.length + 11) w47), (.own (st.length + 12) w49)]), (.row AV w35 (List.map TE.row v36)), (.row AO w47 (List.map TS.row v48)), (.row AO w49 (List.map TS.row v50))]) ?_ ?_
       · refine Af ?_
         unfold Te
         refine Ab (e_t h20) ?_
         refine AB (e_t (em rfl h14)) (by exact rfl) ?_
         refine Ap (e_t eh) ((Am rfl 8).trans rfl) (by exact rfl) ?_
         refine Bh (row := (rI .i64)) (AL (e_t eh) Bq) ?_
         refine AB (e_t (Ad rfl h14)) (by exact rfl) ?_
         refine Ap (e_t eh) ((Am rfl 8).trans rfl) (by exact rfl) ?_
         refine Bh (row := (rI .i64)) (AL (e_t eh) Bq) ?_
         refine Ar (e_t (Ac rfl (em rfl eh))) (e_t eh) (BX ?_)
         refine Ar (e_t (Ad rfl (Ac rfl (em rfl eh)))) (e_t eh) (CL ?_)
         refine Ab (e_t eh) ?_
         refine Au eh hr (fun hr => ?_) (fun hr => ?_)
         rotate_left
         · refine Ah eh (Ah (em rfl eh) (Ao (e_t (Ac rfl eh)) e_c (Aa (Ae ?_))))
           exact ⟨false, hr, (Ak rfl (Ad rfl (Ac rfl h1))), (Ak rfl (Ad rfl (Ac rfl h4))), (Ak rfl (Ad rfl (Ac rfl h5))), (Ak rfl (Ad rfl (Ac rfl h13))), (Ak rfl (Ad rfl (Ac rfl h14))), (Ak rfl (Ad rfl (Ac rfl h15))), (Ak rfl (Ad rfl (Ac rfl h16))), (Ak rfl (Ad rfl (Ac rfl h17))), (Ak rfl (Ad rfl (Ac rfl h20))), eh, rfl⟩
         refine Aj eh (Ab (e_t (Ak rfl (Ac rfl (em rfl h20)))) (Aj (em rfl eh) ?_))
         refine Ar (e_t eh) e_c (CL ?_)
         refine An (e_t (Ac rfl eh)) (e_t eh) (Aa (Ae ?_))
         exact ⟨(decide (v53 < (10 : Int))), hr, (Ak rfl (Ad rfl (Ac rfl h1))), (Ak rfl (Ad rfl (Ac rfl h4))), (Ak rfl (Ad rfl (Ac rfl h5))), (Ak rfl (Ad rfl (Ac rfl h13))), (Ak rfl (Ad rfl (Ac rfl h14))), (Ak rfl (Ad rfl (Ac rfl h15))), (Ak rfl (Ad rfl (Ac rfl h16))), (Ak rfl (Ad rfl (Ac rfl h17))), (Ak rfl (Ad rfl (Ac rfl h20))), eh, rfl⟩
       rintro f st' ⟨v54, hr, h1, h4, h5, h13, h14, h15, h16, h17, h20, h202, rfl⟩
       rw [EY] at hr
       refine AC (e_t h202) hr (fun hr => ?_) (fun hr => ?_)
       rotate_left
       · refine CP ?_
         refine A0 ?_
         refine A0 ?_
         refine Ea ?_
         refine Ae ?_
         exact ⟨v48, v50, v51, v52, w47, w49, hr, h1, h4, h5, h13, h15, h16, h17, rfl⟩
       refine AN (Ae (Al ?_))
       refine AX ?_
       refine Al (Af ?_)
       unfold Ud
       refine Ab (e_t h20) ?_
       refine AB (e_t (em rfl h14)) (by exact rfl) ?_
       refine Ap (e_t eh) ((Am rfl 8).trans rfl) (by exact rfl) ?_
       refine Bh (row := (rI .i64)) (AL (e_t eh) Bq) ?_
       refine Ar (e_t (Ac rfl (em rfl eh))) (e_t eh) (CL ?_)
       refine Ab (e_t eh) (Aa (Ae (Al (Af ?_))))
       unfold SM
       refine Ab e_c (Aa (Ae ?_))
       refine BD (fun f st' => ∃ (v59 : Int), ED v27 v29 v31 v34 q3 v48 v50 v51 v52 v53 v59 = some r ∧ f 1 = (.d (.sl (List.map TKnot.row p1))) ∧ f 4 = (.ptr (st.length + 0) 0) ∧ f 5 = (.ptr (st.length + 1) 0) ∧ f 13 = (.d (.int .i64 v32)) ∧ f 14 = (.ptr (st.length + 8) 0) ∧ f 15 = (.ptr (st.length + 9) 0) ∧ f 16 = (.d (.int .i64 v51)) ∧ f 17 = (.d (.int .i64 v52)) ∧ f 20 = (.d (.int .i64 v53)) ∧ f 21 = (.d (.bool (decide (v53 < (v34.Body.length : Int))))) ∧ f 22 = (.d (.int .i64 v59)) ∧ st' = st ++ [(.box [(.ex []), (.ex []), (.ex []), (.ex []), (.ex []), (.ex [])]), (.box [(.own (st.length + 2) w2), (.own (st.length + 3) w4), (.own (st.length + 4) w6), (.own (st.length + 5) w26), (.own (st.length + 6) w28), (.own (st.length + 7) w30)]), (.row AV w2 (List.map TE.row v3)), (.row Ba w4 (List.map (rI .i64) v5)), (.row Ba w6 (List.map (rI .i64) v7)), (.row AO w26 (List.map TS.row v27)), (.row Ba w28 (List.map (rI .i64) v29)), (.row Ba w30 (List.map (rI .i64) v31)), (.box [(.d (.int .i64 v34.Op)), (.d (.str v34.Name)), (.d (.str v34.Src)), (.d (.int .i64 v34.N)), (.d (.sl (List.map rS v34.Cols))), (.d (.sl (List.map (rI .i64) v34.Exprs))), (.d (.sl (List.map (rI .i64) v34.Body))), (.d (.sl (List.map (rI .i64) v34.Else)))]), (.box [(.d (.int .i64 v34.Op)), (.d (.str v34.Name)), (.d (.str v34.Src)), (.d (.int .i64 v34.N)), (.d (.sl (List.map rS v34.Cols))), (.own (st.length + 10) w35), (.own (st.length + 11) w47), (.own (st.length + 12) w49)]), (.row AV w35 (List.map TE.row v36)), (.row AO w47 (List.map TS.row v48)), (.row AO w49 (List.map TS.row v50))]) ?_ ?_
       · refine Al (Af ?_)
         unfold T1
         refine Ab (e_t (em rfl eh)) (Aa (Ae ?_))
         refine AC (e_t eh) hr (fun hr => ?_) (fun hr => ?_)
         · refine Af ?_
           unfold Ux
           refine AB (e_t (Ad rfl (Ad rfl h14))) (by exact rfl) ?_
           refine Ap (e_t eh) ((Am rfl 8).trans rfl) (by exact rfl) ?_
           refine Ab (e_t (Ak rfl (Ac rfl h20))) ?_
           refine Bt (row := (rI .i64)) (AL (e_t (em rfl eh)) Bq) (e_t eh) hr (fun _ => rfl) (fun _ => rfl) (fun v55 hr => ?_)
           refine BG (e_t eh) (by exact rfl) ?_
           refine Ab (e_t (Ak rfl (Ad rfl (em rfl h13)))) ?_
           obtain ⟨v56, hc_v56, hr⟩ := bind_some hr
           refine AP (Ay (e_t (em rfl eh)) AG (Ay (e_t eh) AG AR)) ?_
           refine Xp v55 v32 hc_v56 ?_
           refine Ab (e_t eh) (Aa (Ae ?_))
           exact ⟨v56, hr, (Ak rfl (Ad rfl (Ad rfl h1))), (Ak rfl (Ad rfl (Ad rfl h4))), (Ak rfl (Ad rfl (Ad rfl h5))), (Ak rfl (Ad rfl (Ad rfl h13))), (Ak rfl (Ad rfl (Ad rfl h14))), (Ak rfl (Ad rfl (Ad rfl h15))), (Ak rfl (Ad rfl (Ad rfl h16))), (Ak rfl (Ad rfl (Ad rfl h17))), (Ak rfl (Ad rfl (Ad rfl h20))), (Ak rfl (Ac rfl eh)), eh, rfl⟩
         refine Af ?_
         unfold S3
         refine AB (e_t (Ad rfl (Ad rfl h14))) (by exact rfl) ?_
         refine Ap (e_t eh) ((Am rfl 8).trans rfl) (by exact rfl) ?_
         refine Ab (e_t (Ak rfl (Ac rfl h20))) ?_
         refine AB (e_t (Ak rfl (Ac rfl (em rfl h14)))) (by exact rfl) ?_
         refine Ap (e_t eh) ((Am rfl 8).trans rfl) (by exact rfl) ?_
         refine Bh (row := (rI .i64)) (AL (e_t eh) Bq) ?_
         refine Ar (e_t (Ac rfl (em rfl eh))) (e_t eh) (An6 ?_)
         refine Bt (row := (rI .i64)) (AL (e_t (Ad rfl (em rfl eh))) Bq) (e_t eh) hr (fun _ => rfl) (fun _ => rfl) (fun v57 hr => ?_)
         refine BG (e_t eh) (by exact rfl) ?_
         refine Ab (e_t (Ai rfl (em rfl h13))) ?_
         obtain ⟨v58, hc_v58, hr⟩ := bind_some hr
         refine AP (Ay (e_t (em rfl eh)) AG (Ay (e_t eh) AG AR)) ?_
         refine Xp v57 v32 hc_v58 ?_
         refine Ab (e_t eh) (Aa (Ae ?_))
         exact ⟨v58, hr, (Ai rfl (Ad rfl h1)), (Ai rfl (Ad rfl h4)), (Ai rfl (Ad rfl h5)), (Ai rfl (Ad rfl h13)), (Ai rfl (Ad rfl h14)), (Ai rfl (Ad rfl h15)), (Ai rfl (Ad rfl h16)), (Ai rfl (Ad rfl h17)), (Ai rfl (Ad rfl h20)), (Ak rfl (Ad rfl (Ac rfl eh))), eh, rfl⟩
       rintro f st' ⟨v59, hr, h1, h4, h5, h13, h14, h15, h16, h17, h20, h21, h22, rfl⟩
       rw [ED] at hr
       refine Al (Al (Af ?_))
       unfold T4
       refine Ab (e_t h22) ?_
       refine Ar (e_t eh) e_c (CL ?_)
       refine Aa (Ae ?_)
       refine AC (e_t eh) hr (fun hr => ?_) (fun hr => ?_)
       · refine CP ?_
         refine A0 ?_
         refine Ea ?_
         refine Ae (Af ?_)
         unfold KU
         refine Ab (e_t (Ac rfl h20)) ?_
         refine Ar (e_t eh) e_c (BX ?_)
         refine Ab (e_t eh) (Aa (Ae ?_))
         exact ⟨m_3, _, Nat.lt_succ_self m_3, Ghost.refl _, v48, v50, v51, v52, (IntKind.wrap .i64 (v53 + (1 : Int))), w47, w49, (by rw [hrec_3]; exact hr), (Ad rfl (em rfl h1)), (Ad rfl (em rfl h4)), (Ad rfl (em rfl h5)), (Ad rfl (em rfl h13)), (Ad rfl (em rfl h14)), (Ad rfl (em rfl h15)), (Ad rfl (em rfl h16)), (Ad rfl (em rfl h17)), eh, rfl⟩
       refine AN (Ae (Al (Af ?_)))
       unfold Uy
       refine Ab (e_t (Ac rfl h16)) ?_
       refine AB (e_t (Ac rfl (em rfl h5))) (by exact rfl) ?_
       refine Ap (e_t eh) ((Am rfl 1).trans rfl) (by exact rfl) ?_
       refine Ab (e_t (Ad rfl (em rfl h22))) ?_
       refine Bt (row := (rI .i64)) (AL (e_t (em rfl eh)) (Iz ((Am rfl 6).trans rfl))) (e_t eh) hr (fun _ => rfl) (fun _ => rfl) (fun v60 hr => ?_)
       refine BG (e_t eh) (by exact rfl) ?_
       refine Ar (e_t (Ad rfl (em rfl eh))) (e_t eh) (BX ?_)
       refine Ab (e_t eh) (Aa (Ae (Al (Af ?_))))
       unfold T0
       refine Ab (e_t (Ak rfl (Ac rfl h17))) ?_
       refine AB (e_t (Ak rfl (Ac rfl (em rfl h5)))) (by exact rfl) ?_
       refine Ap (e_t eh) ((Am rfl 1).trans rfl) (by exact rfl) ?_
       refine Ab (e_t (Ak rfl (Ad rfl (em rfl h22)))) ?_
       refine Bt (row := (rI .i64)) (AL (e_t (em rfl eh)) (Iz ((Am rfl 7).trans rfl))) (e_t eh) hr (fun _ => rfl) (fun _ => rfl) (fun v61 hr => ?_)
       refine BG (e_t eh) (by exact rfl) ?_
       refine Ar (e_t eh) e_c (BX ?_)
       refine Zg (e_t (Ad rfl (Ac rfl eh))) (Zh (e_t eh) (PW ?_))
       refine Ab (e_t eh) (Aa (Ae (Al (Af ?_))))
       unfold Ts
       refine Ab (e_t (Ai rfl (Ac rfl (em rfl h21)))) (Aa (Ae ?_))
       refine AC (e_t eh) hr (fun hr => ?_) (fun hr => ?_)
       · refine DI (k := 13) rfl rfl ?_
         unfold Up
         refine AB (e_t (Ai rfl (Ad rfl h15))) (by exact rfl) ?_
         refine Ap (e_t eh) ((Am rfl 9).trans rfl) (by exact rfl) ?_
         refine AB (e_t (Ai rfl (Ad rfl (Ac rfl h5)))) (by exact rfl) ?_
         refine Ap (e_t eh) ((Am rfl 1).trans rfl) (by exact rfl) ?_
         refine Ab (e_t (Ai rfl (Ad rfl (Ad rfl h22)))) ?_
         refine Bt (row := TS.row) (AL (e_t (em rfl eh)) (Iz ((Am rfl 5).trans rfl))) (e_t eh) hr TS.row_eq (fun _ => rfl) (fun v62 hr => ?_)
         refine DH (e_t eh) (Nat.le_of_ble_eq_true rfl) (by exact rfl) ?_
         refine CX (rows := List.map TS.row [v62]) (JU (by simp only [List.map, TS.row_eq]) (AE (e_t eh) Bg (As f_d (As f_d (As f_d (As f_d (As f_d (As f_d (As f_d (As f_d AK)))))))) rfl DV)) ?_
         refine Hg (row := TS.row) (AL (e_t eh) KJ) TS.row_eq (fun _ => rfl) (e_t (Ad rfl (Ac rfl eh))) ((Am rfl 11).trans rfl) (fun _ => (Bk rfl _ _)) hr (fun v63 hr => ?_)
         refine AB (e_t (Ai rfl (Ak rfl (Ad rfl (em rfl h15))))) (by exact rfl) ?_
         refine Bl (e_t eh) ((Am rfl 9).trans rfl) (e_t (em rfl eh)) rfl rfl (Nat.le_of_ble_eq_true rfl) (by exact rfl) (cells' := [(.d (.int .i64 v34.Op)), (.d (.str v34.Name)), (.d (.str v34.Src)), (.d (.int .i64 v34.N)), (.d (.sl (List.map rS v34.Cols))), (.own (st.length + 10) w35), (.own (st.length + 11) (w47 + 1)), (.own (st.length + 12) w49)]) (by exact rfl) (Bk rfl _ _) ?_
         refine Aa ?_
         refine BA ?_
         refine Ae (Af ?_)
         unfold KU
         refine Ab (e_t (Ai rfl (Ak rfl (Ad rfl (Ac rfl h20))))) ?_
         refine Ar (e_t eh) e_c (BX ?_)
         refine Ab (e_t eh) (Aa (Ae ?_))
         exact ⟨m_3, _, Nat.lt_succ_self m_3, Ghost.cut _ (st.length + 13) (Nat.le_add_right _ _), v63, v50, (IntKind.wrap .i64 (v51 + v60)), (max v52 (IntKind.wrap .i64 (v61 + (1 : Int)))), (IntKind.wrap .i64 (v53 + (1 : Int))), (w47 + 1), w49, (by rw [hrec_3]; exact hr), ((congrArg (cutV _) (Ai rfl (Ai rfl (em rfl h1)))).trans (v_d)), ((congrArg (cutV _) (Ai rfl (Ai rfl (em rfl h4)))).trans (by simp [cutV, AJ])), ((congrArg (cutV _) (Ai rfl (Ai rfl (em rfl h5)))).trans (by simp [cutV, AJ])), ((congrArg (cutV _) (Ai rfl (Ai rfl (em rfl h13)))).trans (v_d)), ((congrArg (cutV _) (Ai rfl (Ai rfl (em rfl h14)))).trans (by simp [cutV, AJ])), ((congrArg (cutV _) (Ai rfl (Ai rfl (em rfl h15)))).trans (by simp [cutV, AJ])), ((congrArg (cutV _) (Ai rfl (Ad rfl (Ac rfl (em rfl eh))))).trans (v_d)), ((congrArg (cutV _) (Ak rfl (Ad rfl (Ac rfl eh)))).trans (v_d)), ((congrArg (cutV _) eh).trans (v_d)), (EO (l0 := [(.box [(.ex []), (.ex []), (.ex []), (.ex []), (.ex []), (.ex [])]), (.box [(.own (st.length + 2) w2), (.own (st.length + 3) w4), (.own (st.length + 4) w6), (.own (st.length + 5) w26), (.own (st.length + 6) w28), (.own (st.length + 7) w30)]), (.row AV w2 (List.map TE.row v3)), (.row Ba w4 (List.map (rI .i64) v5)), (.row Ba w6 (List.map (rI .i64) v7)), (.row AO w26 (List.map TS.row v27)), (.row Ba w28 (List.map (rI .i64) v29)), (.row Ba w30 (List.map (rI .i64) v31)), (.box [(.d (.int .i64 v34.Op)), (.d (.str v34.Name)), (.d (.str v34.Src)), (.d (.int .i64 v34.N)), (.d (.sl (List.map rS v34.Cols))), (.d (.sl (List.map (rI .i64) v34.Exprs))), (.d (.sl (List.map (rI .i64) v34.Body))), (.d (.sl (List.map (rI .i64) v34.Else)))]), (.box [(.d (.int .i64 v34.Op)), (.d (.str v34.Name)), (.d (.str v34.Src)), (.d (.int .i64 v34.N)), (.d (.sl (List.map rS v34.Cols))), (.own (st.length + 10) w35), (.own (st.length + 11) (w47 + 1)), (.own (st.length + 12) w49)]), (.row AV w35 (List.map TE.row v36)), (.row AO (w47 + 1) (List.map TS.row v63)), (.row AO w49 (List.map TS.row v50))]) (l1 := _) hwf rfl rfl (by simp [Ka, cutV, AJ, AJ.belowL]))⟩
       refine DI (k := 13) rfl rfl ?_
       unfold SU
       refine AB (e_t (Ai rfl (Ad rfl h15))) (by exact rfl) ?_
       refine Ap (e_t eh) ((Am rfl 9).trans rfl) (by exact rfl) ?_
       refine AB (e_t (Ai rfl (Ad rfl (Ac rfl h5)))) (by exact rfl) ?_
       refine Ap (e_t eh) ((Am rfl 1).trans rfl) (by exact rfl) ?_
       refine Ab (e_t (Ai rfl (Ad rfl (Ad rfl h22)))) ?_
       refine Bt (row := TS.row) (AL (e_t (em rfl eh)) (Iz ((Am rfl 5).trans rfl))) (e_t eh) hr TS.row_eq (fun _ => rfl) (fun v64 hr => ?_)
       refine DH (e_t eh) (Nat.le_of_ble_eq_true rfl) (by exact rfl) ?_
       refine CX (rows := List.map TS.row [v64]) (JU (by simp only [List.map, TS.row_eq]) (AE (e_t eh) Bg (As f_d (As f_d (As f_d (As f_d (As f_d (As f_d (As f_d (As f_d AK)))))))) rfl DV)) ?_
       refine Hg (row := TS.row) (AL (e_t eh) KJ) TS.row_eq (fun _ => rfl) (e_t (Ad rfl (Ac rfl eh))) ((Am rfl 12).trans rfl) (fun _ => (Bk rfl _ _)) hr (fun v65 hr => ?_)
       refine AB (e_t (Ai rfl (Ak rfl (Ad rfl (em rfl h15))))) (by exact rfl) ?_
       refine Bl (e_t eh) ((Am rfl 9).trans rfl) (e_t (em rfl eh)) rfl rfl (Nat.le_of_ble_eq_true rfl) (by exact rfl) (cells' := [(.d (.int .i64 v34.Op)), (.d (.str v34.Name)), (.d (.str v34.Src)), (.d (.int .i64 v34.N)), (.d (.sl (List.map rS v34.Cols))), (.own (st.length + 10) w35), (.own (st.length + 11) w47), (.own (st.length + 12) (w49 + 1))]) (by exact rfl) (Bk rfl _ _) ?_
       refine Aa ?_
       refine BA ?_
       refine Ae (Af ?_)
       unfold KU
       refine Ab (e_t (Ai rfl (Ak rfl (Ad rfl (Ac rfl h20))))) ?_
       refine Ar (e_t eh) e_c (BX ?_)
       refine Ab (e_t eh) (Aa (Ae ?_))
       exact ⟨m_3, _, Nat.lt_succ_self m_3, Ghost.cut _ (st.length + 13) (Nat.le_add_right _ _), v48, v65, (IntKind.wrap .i64 (v51 + v60)), (max v52 (IntKind.wrap .i64 (v61 + (1 : Int)))), (IntKind.wrap .i64 (v53 + (1 : Int))), w47, (w49 + 1), (by rw [hrec_3]; exact hr), ((congrArg (cutV _) (Ai rfl (Ai rfl (em rfl h1)))).trans (v_d)), ((congrArg (cutV _) (Ai rfl (Ai rfl (em rfl h4)))).trans (by simp [cutV, AJ])), ((congrArg (cutV _) (Ai rfl (Ai rfl (em rfl h5)))).trans (by simp [cutV, AJ])), ((congrArg (cutV _) (Ai rfl (Ai rfl (em rfl h13)))).trans (v_d)), ((congrArg (cutV _) (Ai rfl (Ai rfl (em rfl h14)))).trans (by simp [cutV, AJ])), ((congrArg (cutV _) (Ai rfl (Ai rfl (em rfl h15)))).trans (by simp [cutV, AJ])), ((congrArg (cutV _) (Ai rfl (Ad rfl (Ac rfl (em rfl eh))))).trans (v_d)), ((congrArg (cutV _) (Ak rfl (Ad rfl (Ac rfl eh)))).trans (v_d)), ((congrArg (cutV _) eh).trans (v_d)), (EO (l0 := [(.box [(.ex []), (.ex []), (.ex []), (.ex []), (.ex []), (.ex [])]), (.box [(.own (st.length + 2) w2), (.own (st.length + 3) w4), (.own (st.length + 4) w6), (.own (st.length + 5) w26), (.own (st.length + 6) w28), (.own (st.length + 7) w30)]), (.row AV w2 (List.map TE.row v3)), (.row Ba w4 (List.map (rI .i64) v5)), (.row Ba w6 (List.map (rI .i64) v7)), (.row AO w26 (List.map TS.row v27)), (.row Ba w28 (List.map (rI .i64) v29)), (.row Ba w30 (List.map (rI .i64) v31)), (.box [(.d (.int .i64 v34.Op)), (.d (.str v34.Name)), (.d (.str v34.Src)), (.d (.int .i64 v34.N)), (.d (.sl (List.map rS v34.Cols))), (.d (.sl (List.map (rI .i64) v34.Exprs))), (.d (.sl (List.map (rI .i64) v34.Body))), (.d (.sl (List.map (rI .i64) v34.Else)))]), (.box [(.d (.int .i64 v34.Op)), (.d (.str v34.Name)), (.d (.str v34.Src)), (.d (.int .i64 v34.N)), (.d (.sl (List.map rS v34.Cols))), (.own (st.length + 10) w35), (.own (st.length + 11) w47), (.own (st.length + 12) (w49 + 1))]), (.row AV w35 (List.map TE.row v36)), (.row AO w47 (List.map TS.row v48)), (.row AO (w49 + 1) (List.map TS.row v65))]) (l1 := _) hwf rfl rfl (by simp [Ka, cutV, AJ, AJ.belowL]))⟩
end Go.Ax
