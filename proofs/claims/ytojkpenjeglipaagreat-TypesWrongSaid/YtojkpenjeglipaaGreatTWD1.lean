import Derived.Test.YtojkpenjeglipaaGreatTWT
import Derived.Test.YtojkpenjeglipaaGreatTCVX
import Derived.Test.YtojkpenjeglipaaGreatTCPrim
import Derived.Test.YtojkpenjeglipaaGreatTWD0
set_option linter.unusedVariables false
set_option maxRecDepth 100000
set_option maxHeartbeats 4000000
namespace Go.Ax
attribute [local irreducible] BH FA F2 Bf DM Hp Cq V4 Lz upd ev u0 Dh frz A4 EO mmD bnd Ch Gk DU C2 Ie JH FZ cutV NL CO
variable {st : List Content}
def GP (v3 : (List TE)) (v5 : (List Int)) (v7 : (List Int)) (v8 : Int) (q0 : (List TE) → (List Int) → (List Int) → Int → Option TTree) (v10 : TLeaf) (v12 : (List TE)) (v13 : Int) (v14 : Int) : Option TTree :=
 ((MM 88 v3 ([(⟨v10.Op, v10.N, v10.S, v10.Name, v10.Src, v12⟩ : TE)])).bind fun v23 => ((MM 8 v5 ([(DI v13 v14).1])).bind fun v24 => ((MM 8 v7 ([(DI v13 v14).2])).bind fun v25 => q0 v23 v24 v25 (IntKind.wrap .i64 (v8 + (1 : Int))))))
def Fe (v3 : (List TE)) (v5 : (List Int)) (v7 : (List Int)) (v8 : Int) (q0 : (List TE) → (List Int) → (List Int) → Int → Option TTree) (v10 : TLeaf) (v12 : (List TE)) (v13 : Int) (v14 : Int) (v15 : Int) (q1 : (List TE) → Int → Int → Int → Option TTree) (v16 : Bool) : Option TTree :=
 (bif v16 then ((Dw v10.Kids v15).bind fun v17 => ((HT v17 v8).bind fun v18 => (bif (decide ((0 : Int) ≤ v18)) then ((Dw v3 v18).bind fun v19 => ((MM 88 v12 ([v19])).bind fun v20 => ((Dw v5 v18).bind fun v21 => ((Dw v7 v18).bind fun v22 => q1 v20 (IntKind.wrap .i64 (v13 + v21)) (max v14 (IntKind.wrap .i64 (v22 + (1 : Int)))) (IntKind.wrap .i64 (v15 + (1 : Int))))))) else q1 v12 v13 v14 (IntKind.wrap .i64 (v15 + (1 : Int)))))) else (GP v3 v5 v7 v8 q0 v10 v12 v13 v14))
def IH (v3 : (List TE)) (v5 : (List Int)) (v7 : (List Int)) (v8 : Int) (q0 : (List TE) → (List Int) → (List Int) → Int → Option TTree) (v10 : TLeaf) (q1 : (List TE) → Int → Int → Int → Option TTree) (v12 : (List TE)) (v13 : Int) (v14 : Int) (v15 : Int) : Option TTree :=
 (bif (decide (v15 < (v10.Kids.length : Int))) then (Fe v3 v5 v7 v8 q0 v10 v12 v13 v14 v15 q1 (decide (v15 < (4 : Int)))) else (Fe v3 v5 v7 v8 q0 v10 v12 v13 v14 v15 q1 false))
def CH (v3 : (List TE)) (v5 : (List Int)) (v7 : (List Int)) (v8 : Int) (q0 : (List TE) → (List Int) → (List Int) → Int → Option TTree) (v10 : TLeaf) : Nat → (List TE) → Int → Int → Int → Option TTree
 | 0, _, _, _, _ => none
 | m + 1, v12, v13, v14, v15 => IH v3 v5 v7 v8 q0 v10 (CH v3 v5 v7 v8 q0 v10 m) v12 v13 v14 v15
def GW (v27 : (List TS)) (v29 : (List Int)) (v31 : (List Int)) (v32 : Int) (q2 : (List TS) → (List Int) → (List Int) → Int → Option TTree) (v34 : TKnot) (v36 : (List TE)) (v48 : (List TS)) (v50 : (List TS)) (v51 : Int) (v52 : Int) : Option TTree :=
 ((MM 144 v27 ([(⟨v34.Op, v34.Name, v34.Src, v34.N, v34.Cols, v36, v48, v50⟩ : TS)])).bind fun v66 => ((MM 8 v29 ([(DI v51 v52).1])).bind fun v67 => ((MM 8 v31 ([(DI v51 v52).2])).bind fun v68 => q2 v66 v67 v68 (IntKind.wrap .i64 (v32 + (1 : Int))))))
def EL (v27 : (List TS)) (v29 : (List Int)) (v31 : (List Int)) (v34 : TKnot) (q3 : (List TS) → (List TS) → Int → Int → Int → Option TTree) (v48 : (List TS)) (v50 : (List TS)) (v51 : Int) (v52 : Int) (v53 : Int) (v59 : Int) : Option TTree :=
 (bif (decide (v59 < (0 : Int))) then q3 v48 v50 v51 v52 (IntKind.wrap .i64 (v53 + (1 : Int))) else ((Dw v29 v59).bind fun v60 => ((Dw v31 v59).bind fun v61 => (bif (decide (v53 < (v34.Body.length : Int))) then ((Dw v27 v59).bind fun v62 => ((MM 144 v48 ([v62])).bind fun v63 => q3 v63 v50 (IntKind.wrap .i64 (v51 + v60)) (max v52 (IntKind.wrap .i64 (v61 + (1 : Int)))) (IntKind.wrap .i64 (v53 + (1 : Int))))) else ((Dw v27 v59).bind fun v64 => ((MM 144 v50 ([v64])).bind fun v65 => q3 v48 v65 (IntKind.wrap .i64 (v51 + v60)) (max v52 (IntKind.wrap .i64 (v61 + (1 : Int)))) (IntKind.wrap .i64 (v53 + (1 : Int)))))))))
def Fk (v27 : (List TS)) (v29 : (List Int)) (v31 : (List Int)) (v32 : Int) (q2 : (List TS) → (List Int) → (List Int) → Int → Option TTree) (v34 : TKnot) (v36 : (List TE)) (q3 : (List TS) → (List TS) → Int → Int → Int → Option TTree) (v48 : (List TS)) (v50 : (List TS)) (v51 : Int) (v52 : Int) (v53 : Int) (v54 : Bool) : Option TTree :=
 (bif v54 then (bif (decide (v53 < (v34.Body.length : Int))) then ((Dw v34.Body v53).bind fun v55 => ((HT v55 v32).bind fun v56 => (EL v27 v29 v31 v34 q3 v48 v50 v51 v52 v53 v56))) else ((Dw v34.Else (IntKind.wrap .i64 (v53 - (v34.Body.length : Int)))).bind fun v57 => ((HT v57 v32).bind fun v58 => (EL v27 v29 v31 v34 q3 v48 v50 v51 v52 v53 v58)))) else (GW v27 v29 v31 v32 q2 v34 v36 v48 v50 v51 v52))
def IL (v27 : (List TS)) (v29 : (List Int)) (v31 : (List Int)) (v32 : Int) (q2 : (List TS) → (List Int) → (List Int) → Int → Option TTree) (v34 : TKnot) (v36 : (List TE)) (q3 : (List TS) → (List TS) → Int → Int → Int → Option TTree) (v48 : (List TS)) (v50 : (List TS)) (v51 : Int) (v52 : Int) (v53 : Int) : Option TTree :=
 (bif (decide (v53 < (IntKind.wrap .i64 ((v34.Body.length : Int) + (v34.Else.length : Int))))) then (Fk v27 v29 v31 v32 q2 v34 v36 q3 v48 v50 v51 v52 v53 (decide (v53 < (10 : Int)))) else (Fk v27 v29 v31 v32 q2 v34 v36 q3 v48 v50 v51 v52 v53 false))
def BY (v27 : (List TS)) (v29 : (List Int)) (v31 : (List Int)) (v32 : Int) (q2 : (List TS) → (List Int) → (List Int) → Int → Option TTree) (v34 : TKnot) (v36 : (List TE)) : Nat → (List TS) → (List TS) → Int → Int → Int → Option TTree
 | 0, _, _, _, _, _ => none
 | m + 1, v48, v50, v51, v52, v53 => IL v27 v29 v31 v32 q2 v34 v36 (BY v27 v29 v31 v32 q2 v34 v36 m) v48 v50 v51 v52 v53
def GR (n : Nat) (v27 : (List TS)) (v29 : (List Int)) (v31 : (List Int)) (v32 : Int) (q2 : (List TS) → (List Int) → (List Int) → Int → Option TTree) (v34 : TKnot) (v36 : (List TE)) (v37 : Int) (v38 : Int) : Option TTree :=
 (BY v27 v29 v31 v32 q2 v34 v36 n ([]) ([]) v37 v38 (0 : Int))
def E8 (n : Nat) (v3 : (List TE)) (v5 : (List Int)) (v7 : (List Int)) (v27 : (List TS)) (v29 : (List Int)) (v31 : (List Int)) (v32 : Int) (q2 : (List TS) → (List Int) → (List Int) → Int → Option TTree) (v34 : TKnot) (v36 : (List TE)) (v37 : Int) (v38 : Int) (v39 : Int) (q4 : (List TE) → Int → Int → Int → Option TTree) (v40 : Bool) : Option TTree :=
 (bif v40 then ((Dw v34.Exprs v39).bind fun v41 => ((HT v41 (v3.length : Int)).bind fun v42 => (bif (decide ((0 : Int) ≤ v42)) then ((Dw v3 v42).bind fun v43 => ((MM 88 v36 ([v43])).bind fun v44 => ((Dw v5 v42).bind fun v45 => ((Dw v7 v42).bind fun v46 => q4 v44 (IntKind.wrap .i64 (v37 + v45)) (max v38 (IntKind.wrap .i64 (v46 + (1 : Int)))) (IntKind.wrap .i64 (v39 + (1 : Int))))))) else q4 v36 v37 v38 (IntKind.wrap .i64 (v39 + (1 : Int)))))) else (GR n v27 v29 v31 v32 q2 v34 v36 v37 v38))
def IJ (n : Nat) (v3 : (List TE)) (v5 : (List Int)) (v7 : (List Int)) (v27 : (List TS)) (v29 : (List Int)) (v31 : (List Int)) (v32 : Int) (q2 : (List TS) → (List Int) → (List Int) → Int → Option TTree) (v34 : TKnot) (q4 : (List TE) → Int → Int → Int → Option TTree) (v36 : (List TE)) (v37 : Int) (v38 : Int) (v39 : Int) : Option TTree :=
 (bif (decide (v39 < (v34.Exprs.length : Int))) then (E8 n v3 v5 v7 v27 v29 v31 v32 q2 v34 v36 v37 v38 v39 q4 (decide (v39 < (10 : Int)))) else (E8 n v3 v5 v7 v27 v29 v31 v32 q2 v34 v36 v37 v38 v39 q4 false))
def Co (n : Nat) (v3 : (List TE)) (v5 : (List Int)) (v7 : (List Int)) (v27 : (List TS)) (v29 : (List Int)) (v31 : (List Int)) (v32 : Int) (q2 : (List TS) → (List Int) → (List Int) → Int → Option TTree) (v34 : TKnot) : Nat → (List TE) → Int → Int → Int → Option TTree
 | 0, _, _, _, _ => none
 | m + 1, v36, v37, v38, v39 => IJ n v3 v5 v7 v27 v29 v31 v32 q2 v34 (Co n v3 v5 v7 v27 v29 v31 v32 q2 v34 m) v36 v37 v38 v39
def FW (p1 : (List TKnot)) (n : Nat) (v3 : (List TE)) (v5 : (List Int)) (v7 : (List Int)) (v27 : (List TS)) (v29 : (List Int)) (v31 : (List Int)) (v32 : Int) (q2 : (List TS) → (List Int) → (List Int) → Int → Option TTree) (v33 : Bool) : Option TTree :=
 (bif v33 then ((Dw p1 v32).bind fun v34 => (Co n v3 v5 v7 v27 v29 v31 v32 q2 v34 n ([]) (1 : Int) (1 : Int) (0 : Int))) else some (⟨v3, v5, v7, v27, v29, v31⟩ : TTree))
def IE (p1 : (List TKnot)) (n : Nat) (v3 : (List TE)) (v5 : (List Int)) (v7 : (List Int)) (q2 : (List TS) → (List Int) → (List Int) → Int → Option TTree) (v27 : (List TS)) (v29 : (List Int)) (v31 : (List Int)) (v32 : Int) : Option TTree :=
 (bif (decide (v32 < (p1.length : Int))) then (FW p1 n v3 v5 v7 v27 v29 v31 v32 q2 (decide (v32 < (50 : Int)))) else (FW p1 n v3 v5 v7 v27 v29 v31 v32 q2 false))
def B7 (p1 : (List TKnot)) (n : Nat) (v3 : (List TE)) (v5 : (List Int)) (v7 : (List Int)) : Nat → (List TS) → (List Int) → (List Int) → Int → Option TTree
 | 0, _, _, _, _ => none
 | m + 1, v27, v29, v31, v32 => IE p1 n v3 v5 v7 (B7 p1 n v3 v5 v7 m) v27 v29 v31 v32
def FR (p0 : (List TLeaf)) (p1 : (List TKnot)) (n : Nat) (v3 : (List TE)) (v5 : (List Int)) (v7 : (List Int)) (v8 : Int) (q0 : (List TE) → (List Int) → (List Int) → Int → Option TTree) (v9 : Bool) : Option TTree :=
 (bif v9 then ((Dw p0 v8).bind fun v10 => (CH v3 v5 v7 v8 q0 v10 n ([]) (1 : Int) (1 : Int) (0 : Int))) else (B7 p1 n v3 v5 v7 n ([]) ([]) ([]) (0 : Int)))
def IC (p0 : (List TLeaf)) (p1 : (List TKnot)) (n : Nat) (q0 : (List TE) → (List Int) → (List Int) → Int → Option TTree) (v3 : (List TE)) (v5 : (List Int)) (v7 : (List Int)) (v8 : Int) : Option TTree :=
 (bif (decide (v8 < (p0.length : Int))) then (FR p0 p1 n v3 v5 v7 v8 q0 (decide (v8 < (50 : Int)))) else (FR p0 p1 n v3 v5 v7 v8 q0 false))
def Cp (p0 : (List TLeaf)) (p1 : (List TKnot)) (n : Nat) : Nat → (List TE) → (List Int) → (List Int) → Int → Option TTree
 | 0, _, _, _, _ => none
 | m + 1, v3, v5, v7, v8 => IC p0 p1 n (Cp p0 p1 n m) v3 v5 v7 v8
def MU (n : Nat) (p0 : (List TLeaf)) (p1 : (List TKnot)) : Option TTree :=
 (Cp p0 p1 n n ([]) ([]) ([]) (0 : Int))
theorem BX0 (n : Nat) (p0 : (List TLeaf)) (p1 : (List TKnot)) {r : TTree} (hr : MU n p0 p1 = some r) {K : PV → List Content → Prop} (h : K (.agg [(.d (.sl (List.map TE.row r.Exprs))), (.d (.sl (List.map (rI .i64) r.Nodes))), (.d (.sl (List.map (rI .i64) r.Depth))), (.d (.sl (List.map TS.row r.Stmts))), (.d (.sl (List.map (rI .i64) r.Much))), (.d (.sl (List.map (rI .i64) r.Deep)))]) st) : Aw PR Bf7 [(.d (.sl (List.map TLeaf.row p0))), (.d (.sl (List.map TKnot.row p1)))] st K := by
 refine Aw.of BZ2 (Nat.le_of_ble_eq_true rfl) fun hwf => ?_
 rw [ED]
 refine AS ?_
 unfold BA5
 rw [MU] at hr
 refine Al (Af ?_)
 unfold AW3
 refine Dv (k := 0) rfl rfl ?_
 refine Aa (Ae (Al (Af ?_)))
 unfold AS0
 refine T2 (cs := [(.ex []), (.ex []), (.ex []), (.ex []), (.ex []), (.ex [])]) Ae4 Ab6 ?_
 refine Dv (k := 1) rfl rfl ?_
 refine BB (e_t eh) (gx 1 rfl) (e_t (em rfl eh)) Bi rfl (Nat.le_of_ble_eq_true rfl) (by rfl) (cells' := [(.ex []), (.ex []), (.ex []), (.ex []), (.ex []), (.ex [])]) (by rfl) (BD rfl _ _) ?_
 refine Aa (Ae (Al (Al (Af ?_))))
 unfold AY7
 refine Ab e_c (Aa (Ae ?_))
 refine A3 ?_
 refine Cy (fun m f st' => ∃ (v3 : (List TE)), ∃ (v5 : (List Int)), ∃ (v7 : (List Int)), ∃ (v8 : Int), ∃ (w2 : Nat), ∃ (w4 : Nat), ∃ (w6 : Nat), Cp p0 p1 n m v3 v5 v7 v8 = some r ∧ f 0 = (.d (.sl (List.map TLeaf.row p0))) ∧ f 1 = (.d (.sl (List.map TKnot.row p1))) ∧ f 4 = (.ptr (st.length + 0) 0) ∧ f 5 = (.ptr (st.length + 1) 0) ∧ f 6 = (.d (.int .i64 v8)) ∧ st' = st ++ [(.box [(.ex []), (.ex []), (.ex []), (.ex []), (.ex []), (.ex [])]), (.box [(.own (st.length + 2) w2), (.own (st.length + 3) w4), (.own (st.length + 4) w6), (.ex []), (.ex []), (.ex [])]), (.row AO w2 (List.map TE.row v3)), (.row A7 w4 (List.map (rI .i64) v5)), (.row A7 w6 (List.map (rI .i64) v7))]) n (Ghost.trans (Gu (k := 2) (cells := [(.ex []), (.ex []), (.ex []), (.ex []), (.ex []), (.ex [])]) 1 0 (List.map TE.row ([])) AO 6 rfl rfl rfl rfl rfl (Qi TE.row_eq)) (Ghost.trans (Gu (k := 3) (cells := [(.own (st.length + 2) 0), (.ex []), (.ex []), (.ex []), (.ex []), (.ex [])]) 1 1 (List.map (rI .i64) ([])) A7 1 rfl rfl rfl rfl rfl (Qi (fun _ => rfl))) (Gu (k := 4) (cells := [(.own (st.length + 2) 0), (.own (st.length + 3) 0), (.ex []), (.ex []), (.ex []), (.ex [])]) 1 2 (List.map (rI .i64) ([])) A7 1 rfl rfl rfl rfl rfl (Qi (fun _ => rfl))))) ⟨[], [], [], (0 : Int), 0, 0, 0, hr, (Ad rfl eh), (Ad rfl (em rfl eh)), (Ac rfl (em rfl eh)), (em rfl eh), eh, rfl⟩ ?_
 rintro m f st' ⟨v3, v5, v7, v8, w2, w4, w6, hr, h0, h1, h4, h5, h6, rfl⟩
 cases m with
 | zero => cases hr
 | succ m_0 =>
   rw [Cp] at hr
   generalize hrec_0 : Cp p0 p1 n m_0 = q0 at hr
   rw [IC] at hr
   unfold AA9
   refine Al ?_
   refine BL (fun f st' => ∃ (v9 : Bool), FR p0 p1 n v3 v5 v7 v8 q0 v9 = some r ∧ f 0 = (.d (.sl (List.map TLeaf.row p0))) ∧ f 1 = (.d (.sl (List.map TKnot.row p1))) ∧ f 4 = (.ptr (st.length + 0) 0) ∧ f 5 = (.ptr (st.length + 1) 0) ∧ f 6 = (.d (.int .i64 v8)) ∧ f 31 = (.d (.bool v9)) ∧ st' = st ++ [(.box [(.ex []), (.ex []), (.ex []), (.ex []), (.ex []), (.ex [])]), (.box [(.own (st.length + 2) w2), (.own (st.length + 3) w4), (.own (st.length + 4) w6), (.ex []), (.ex []), (.ex [])]), (.row AO w2 (List.map TE.row v3)), (.row A7 w4 (List.map (rI .i64) v5)), (.row A7 w6 (List.map (rI .i64) v7))]) ?_ ?_
   · refine Af ?_
     unfold AS5
     refine Ab (e_t h6) (Ab (e_t (em rfl h0)) ?_)
     refine Bc (row := TLeaf.row) (AN (e_t eh) Bo) ?_
     refine Ap (e_t (Ac rfl eh)) (e_t eh) (Da ?_)
     refine Ab (e_t eh) ?_
     refine Ar eh hr (fun hr => ?_) (fun hr => ?_)
     rotate_left
     · refine Ah eh (Ah (em rfl eh) (An (e_t (Ac rfl eh)) e_c (Aa (Ae ?_))))
       exact ⟨false, hr, (Ak rfl (em rfl h0)), (Ak rfl (em rfl h1)), (Ak rfl (em rfl h4)), (Ak rfl (em rfl h5)), (Ak rfl (em rfl h6)), eh, rfl⟩
     refine Aj eh (Ab (e_t (Ad rfl (Ac rfl h6))) (Aj (em rfl eh) ?_))
     refine Ap (e_t eh) e_c (Da ?_)
     refine Am (e_t (Ac rfl eh)) (e_t eh) (Aa (Ae ?_))
     exact ⟨(decide (v8 < (50 : Int))), hr, (Ak rfl (em rfl h0)), (Ak rfl (em rfl h1)), (Ak rfl (em rfl h4)), (Ak rfl (em rfl h5)), (Ak rfl (em rfl h6)), eh, rfl⟩
   rintro f st' ⟨v9, hr, h0, h1, h4, h5, h6, h31, rfl⟩
   rw [FR] at hr
   refine AB (e_t h31) hr (fun hr => ?_) (fun hr => ?_)
   · refine AM (Ae (Al ?_))
     refine A3 ?_
     refine Al (Af ?_)
     unfold AV5
     refine Ab (e_t h0) (Ab (e_t (em rfl h6)) ?_)
     refine Bt (row := TLeaf.row) (AN (e_t (em rfl eh)) Bo) (e_t eh) hr TLeaf.row_eq (fun _ => rfl) (fun v10 hr => ?_)
     refine Ft (e_t eh) (Nat.le_of_ble_eq_true rfl) (by rfl) ?_
     refine Dv (k := 5) rfl rfl ?_
     refine BB (e_t eh) (gx 5 rfl) (e_t (em rfl eh)) Bi rfl (Nat.le_of_ble_eq_true rfl) (by rfl) (cells' := [(.d (.int .i64 v10.Op)), (.d (.int .i64 v10.N)), (.d (.str v10.S)), (.d (.str v10.Name)), (.d (.str v10.Src)), (.d (.sl (List.map (rI .i64) v10.Kids)))]) (by rfl) (BD rfl _ _) ?_
     refine Aa (Ae (Al (Af ?_)))
     unfold AW4
     refine AA (e_t eh) (by rfl) ?_
     refine Ao (e_t eh) (gx 5 rfl) (by rfl) ?_
     refine AA (e_t (Ac rfl eh)) (by rfl) ?_
     refine Ao (e_t eh) (gx 5 rfl) (by rfl) ?_
     refine AA (e_t (Ad rfl eh)) (by rfl) ?_
     refine Ao (e_t eh) (gx 5 rfl) (by rfl) ?_
     refine AA (e_t (Ad rfl (Ac rfl eh))) (by rfl) ?_
     refine Ao (e_t eh) (gx 5 rfl) (by rfl) ?_
     refine AA (e_t (Ad rfl (Ad rfl eh))) (by rfl) ?_
     refine Ao (e_t eh) (gx 5 rfl) (by rfl) ?_
     refine T2 (cs := [(.d (.int .i64 v10.Op)), (.d (.int .i64 v10.N)), (.d (.str v10.S)), (.d (.str v10.Name)), (.d (.str v10.Src)), (.ex [])]) (DZ (e_t (Ad rfl (Ad rfl eh))) A2 rfl (Nat.le_of_ble_eq_true rfl) (by rfl) (DZ (e_t (Ad rfl (Ac rfl eh))) A2 rfl (Nat.le_of_ble_eq_true rfl) (by rfl) (DZ (e_t (Ad rfl eh)) A2 rfl (Nat.le_of_ble_eq_true rfl) (by rfl) (DZ (e_t (Ac rfl eh)) A2 rfl (Nat.le_of_ble_eq_true rfl) (by rfl) (DZ (e_t eh) A2 rfl (Nat.le_of_ble_eq_true rfl) (by rfl) Ae4))))) (DX (e_t (Ad rfl (Ad rfl eh))) A2 (by rfl) (DX (e_t (Ad rfl (Ac rfl eh))) A2 (by rfl) (DX (e_t (Ad rfl eh)) A2 (by rfl) (DX (e_t (Ac rfl eh)) A2 (by rfl) (DX (e_t eh) A2 (by rfl) Ab6))))) ?_
     refine Dv (k := 6) rfl rfl ?_
     refine BB (e_t eh) (gx 6 rfl) (e_t (em rfl eh)) Bi rfl (Nat.le_of_ble_eq_true rfl) (by rfl) (cells' := [(.d (.int .i64 v10.Op)), (.d (.int .i64 v10.N)), (.d (.str v10.S)), (.d (.str v10.Name)), (.d (.str v10.Src)), (.ex [])]) (by rfl) (BD rfl _ _) ?_
     refine Aa (Ae (Al (Af ?_)))
     unfold AZ2
     refine Ab e_c (Ab e_c (Aa (Ae ?_)))
     refine BL (fun f st' => ∃ (v12 : (List TE)), ∃ (v13 : Int), ∃ (v14 : Int), ∃ (w11 : Nat), GP v3 v5 v7 v8 q0 v10 v12 v13 v14 = some r ∧ f 0 = (.d (.sl (List.map TLeaf.row p0))) ∧ f 1 = (.d (.sl (List.map TKnot.row p1))) ∧ f 4 = (.ptr (st.length + 0) 0) ∧ f 5 = (.ptr (st.length + 1) 0) ∧ f 6 = (.d (.int .i64 v8)) ∧ f 8 = (.ptr (st.length + 6) 0) ∧ f 9 = (.d (.int .i64 v13)) ∧ f 10 = (.d (.int .i64 v14)) ∧ st' = st ++ [(.box [(.ex []), (.ex []), (.ex []), (.ex []), (.ex []), (.ex [])]), (.box [(.own (st.length + 2) w2), (.own (st.length + 3) w4), (.own (st.length + 4) w6), (.ex []), (.ex []), (.ex [])]), (.row AO w2 (List.map TE.row v3)), (.row A7 w4 (List.map (rI .i64) v5)), (.row A7 w6 (List.map (rI .i64) v7)), (.box [(.d (.int .i64 v10.Op)), (.d (.int .i64 v10.N)), (.d (.str v10.S)), (.d (.str v10.Name)), (.d (.str v10.Src)), (.d (.sl (List.map (rI .i64) v10.Kids)))]), (.box [(.d (.int .i64 v10.Op)), (.d (.int .i64 v10.N)), (.d (.str v10.S)), (.d (.str v10.Name)), (.d (.str v10.Src)), (.own (st.length + 7) w11)]), (.row AO w11 (List.map TE.row v12))]) ?_ ?_
     rotate_left
     · rintro f st' ⟨v12, v13, v14, w11, hr, h0, h1, h4, h5, h6, h8, h9, h10, rfl⟩
       rw [GP] at hr
       refine Al (Af ?_)
       unfold AG8
       refine Ab (e_t h9) (Ab (e_t (em rfl h10)) ?_)
       refine AY (Az (e_t (em rfl eh)) AF (Az (e_t eh) AF A1)) ?_
       refine Bw0 v13 v14 rfl ?_
       refine Ab (e_t eh) ?_
       refine MZ (e_t eh) (by rfl) ?_
       refine MZ (e_t (em rfl eh)) (by rfl) ?_
       refine Ab (e_t (em rfl eh)) (Ab (e_t (em rfl eh)) (Aa (Ae (Al (Af ?_)))))
       unfold AG1
       refine AA (e_t (Ad rfl (Ad rfl h5))) (by rfl) ?_
       refine Ao (e_t eh) (gx 1 rfl) (by rfl) ?_
       refine Cn (e_t (Ak rfl (Ac rfl h8))) (gx 6 rfl) (Nat.le_of_ble_eq_true rfl) (by rfl) ?_
       refine DW (rows := List.map TE.row [(⟨v10.Op, v10.N, v10.S, v10.Name, v10.Src, v12⟩ : TE)]) (YJ (by simp only [List.map, TE.row_eq]) (AC (e_t eh) Bi (Au f_d (Au f_d (Au f_d (Au f_d (Au f_d (Au (Ta (gx 7 rfl)) AJ)))))) rfl FJ)) ?_
       refine JL (row := TE.row) (AN (e_t eh) S4) TE.row_eq (fun _ => rfl) (e_t (Ac rfl eh)) (gx 2 rfl) (fun _ => (BD rfl _ _)) hr (fun v23 hr => ?_)
       refine AA (e_t (Ak rfl (Ad rfl (em rfl h5)))) (by rfl) ?_
       refine BB (e_t eh) (gx 1 rfl) (e_t (em rfl eh)) rfl rfl (Nat.le_of_ble_eq_true rfl) (by rfl) (cells' := [(.own (st.length + 2) (w2 + 1)), (.own (st.length + 3) w4), (.own (st.length + 4) w6), (.ex []), (.ex []), (.ex [])]) (by rfl) (BD rfl _ _) ?_
       refine Aa (Ae (Al (Af ?_)))
       unfold AL9
       refine AA (e_t (Ak rfl (Ad rfl (Ac rfl h5)))) (by rfl) ?_
       refine Ao (e_t eh) (gx 1 rfl) (by rfl) ?_
       refine Ab (e_t (Ak rfl (em rfl eh))) ?_
       refine DW (rows := List.map (rI .i64) [(DI v13 v14).1]) ((AC (e_t eh) A2 (Au f_d AJ) rfl FJ)) ?_
       refine JL (row := (rI .i64)) (AN (e_t eh) S4) (fun _ => rfl) (fun _ => rfl) (e_t (Ac rfl eh)) (gx 3 rfl) (fun _ => (BD rfl _ _)) hr (fun v24 hr => ?_)
       refine AA (e_t (Ai rfl (Ac rfl (em rfl h5)))) (by rfl) ?_
       refine BB (e_t eh) (gx 1 rfl) (e_t (em rfl eh)) rfl rfl (Nat.le_of_ble_eq_true rfl) (by rfl) (cells' := [(.own (st.length + 2) (w2 + 1)), (.own (st.length + 3) (w4 + 1)), (.own (st.length + 4) w6), (.ex []), (.ex []), (.ex [])]) (by rfl) (BD rfl _ _) ?_
       refine Aa (Ae (Af ?_))
       unfold AF5
       refine AA (e_t (Ai rfl (Ad rfl h5))) (by rfl) ?_
       refine Ao (e_t eh) (gx 1 rfl) (by rfl) ?_
       refine Ab (e_t (Ak rfl (Ad rfl (Ac rfl eh)))) ?_
       refine DW (rows := List.map (rI .i64) [(DI v13 v14).2]) ((AC (e_t eh) A2 (Au f_d AJ) rfl FJ)) ?_
       refine JL (row := (rI .i64)) (AN (e_t eh) S4) (fun _ => rfl) (fun _ => rfl) (e_t (Ac rfl eh)) (gx 4 rfl) (fun _ => (BD rfl _ _)) hr (fun v25 hr => ?_)
       refine AA (e_t (Ai rfl (Ak rfl (em rfl h5)))) (by rfl) ?_
       refine BB (e_t eh) (gx 1 rfl) (e_t (em rfl eh)) rfl rfl (Nat.le_of_ble_eq_true rfl) (by rfl) (cells' := [(.own (st.length + 2) (w2 + 1)), (.own (st.length + 3) (w4 + 1)), (.own (st.length + 4) (w6 + 1)), (.ex []), (.ex []), (.ex [])]) (by rfl) (BD rfl _ _) ?_
       refine Aa ?_
       refine BQ ?_
       refine Ae (Af ?_)
       unfold Av0
       refine Ab (e_t (Ai rfl (Ak rfl (Ac rfl h6)))) ?_
       refine Ap (e_t eh) e_c (B4 ?_)
       refine Ab (e_t eh) (Aa (Ae ?_))
       exact ⟨m_0, _, Nat.lt_succ_self m_0, Ghost.cut _ (st.length + 5) (Nat.le_add_right _ _), v23, v24, v25, (IntKind.wrap .i64 (v8 + (1 : Int))), (w2 + 1), (w4 + 1), (w6 + 1), (by rw [hrec_0]; exact hr), ((congrArg (cutV _) (Ai rfl (Ak rfl (Ad rfl (em rfl h0))))).trans (v_d)), ((congrArg (cutV _) (Ai rfl (Ak rfl (Ad rfl (em rfl h1))))).trans (v_d)), ((congrArg (cutV _) (Ai rfl (Ak rfl (Ad rfl (em rfl h4))))).trans (by simp [cutV, AP])), ((congrArg (cutV _) (Ai rfl (Ak rfl (Ad rfl (em rfl h5))))).trans (by simp [cutV, AP])), ((congrArg (cutV _) eh).trans (v_d)), (H1 (l0 := [(.box [(.ex []), (.ex []), (.ex []), (.ex []), (.ex []), (.ex [])]), (.box [(.own (st.length + 2) (w2 + 1)), (.own (st.length + 3) (w4 + 1)), (.own (st.length + 4) (w6 + 1)), (.ex []), (.ex []), (.ex [])]), (.row AO (w2 + 1) (List.map TE.row v23)), (.row A7 (w4 + 1) (List.map (rI .i64) v24)), (.row A7 (w6 + 1) (List.map (rI .i64) v25))]) (l1 := _) hwf rfl rfl (by simp [X2, cutV, AP, AP.belowL]))⟩
     refine Al (Af ?_)
     unfold AZ3
     refine Ab e_c (Aa (Ae ?_))
     refine A3 ?_
     refine Cy (fun m f st' => ∃ (v12 : (List TE)), ∃ (v13 : Int), ∃ (v14 : Int), ∃ (v15 : Int), ∃ (w11 : Nat), CH v3 v5 v7 v8 q0 v10 m v12 v13 v14 v15 = some r ∧ f 0 = (.d (.sl (List.map TLeaf.row p0))) ∧ f 1 = (.d (.sl (List.map TKnot.row p1))) ∧ f 4 = (.ptr (st.length + 0) 0) ∧ f 5 = (.ptr (st.length + 1) 0) ∧ f 6 = (.d (.int .i64 v8)) ∧ f 7 = (.ptr (st.length + 5) 0) ∧ f 8 = (.ptr (st.length + 6) 0) ∧ f 9 = (.d (.int .i64 v13)) ∧ f 10 = (.d (.int .i64 v14)) ∧ f 11 = (.d (.int .i64 v15)) ∧ st' = st ++ [(.box [(.ex []), (.ex []), (.ex []), (.ex []), (.ex []), (.ex [])]), (.box [(.own (st.length + 2) w2), (.own (st.length + 3) w4), (.own (st.length + 4) w6), (.ex []), (.ex []), (.ex [])]), (.row AO w2 (List.map TE.row v3)), (.row A7 w4 (List.map (rI .i64) v5)), (.row A7 w6 (List.map (rI .i64) v7)), (.box [(.d (.int .i64 v10.Op)), (.d (.int .i64 v10.N)), (.d (.str v10.S)), (.d (.str v10.Name)), (.d (.str v10.Src)), (.d (.sl (List.map (rI .i64) v10.Kids)))]), (.box [(.d (.int .i64 v10.Op)), (.d (.int .i64 v10.N)), (.d (.str v10.S)), (.d (.str v10.Name)), (.d (.str v10.Src)), (.own (st.length + 7) w11)]), (.row AO w11 (List.map TE.row v12))]) n (Gu (k := 7) (cells := [(.d (.int .i64 v10.Op)), (.d (.int .i64 v10.N)), (.d (.str v10.S)), (.d (.str v10.Name)), (.d (.str v10.Src)), (.ex [])]) 6 5 (List.map TE.row ([])) AO 6 rfl rfl rfl rfl rfl (Qi TE.row_eq)) ⟨[], (1 : Int), (1 : Int), (0 : Int), 0, hr, (Ai rfl (Ad rfl h0)), (Ai rfl (Ad rfl h1)), (Ai rfl (Ad rfl h4)), (Ai rfl (Ad rfl h5)), (Ai rfl (Ad rfl h6)), (Ak rfl (Ad rfl (Ac rfl (em rfl eh)))), (Ac rfl (em rfl eh)), (Ac rfl eh), (em rfl eh), eh, rfl⟩ ?_
     rintro m f st' ⟨v12, v13, v14, v15, w11, hr, h0, h1, h4, h5, h6, h7, h8, h9, h10, h11, rfl⟩
     cases m with
     | zero => cases hr
     | succ m_1 =>
       rw [CH] at hr
       generalize hrec_1 : CH v3 v5 v7 v8 q0 v10 m_1 = q1 at hr
       rw [IH] at hr
       unfold AG0
       refine Al ?_
       refine BL (fun f st' => ∃ (v16 : Bool), Fe v3 v5 v7 v8 q0 v10 v12 v13 v14 v15 q1 v16 = some r ∧ f 0 = (.d (.sl (List.map TLeaf.row p0))) ∧ f 1 = (.d (.sl (List.map TKnot.row p1))) ∧ f 4 = (.ptr (st.length + 0) 0) ∧ f 5 = (.ptr (st.length + 1) 0) ∧ f 6 = (.d (.int .i64 v8)) ∧ f 7 = (.ptr (st.length + 5) 0) ∧ f 8 = (.ptr (st.length + 6) 0) ∧ f 9 = (.d (.int .i64 v13)) ∧ f 10 = (.d (.int .i64 v14)) ∧ f 11 = (.d (.int .i64 v15)) ∧ f 57 = (.d (.bool v16)) ∧ st' = st ++ [(.box [(.ex []), (.ex []), (.ex []), (.ex []), (.ex []), (.ex [])]), (.box [(.own (st.length + 2) w2), (.own (st.length + 3) w4), (.own (st.length + 4) w6), (.ex []), (.ex []), (.ex [])]), (.row AO w2 (List.map TE.row v3)), (.row A7 w4 (List.map (rI .i64) v5)), (.row A7 w6 (List.map (rI .i64) v7)), (.box [(.d (.int .i64 v10.Op)), (.d (.int .i64 v10.N)), (.d (.str v10.S)), (.d (.str v10.Name)), (.d (.str v10.Src)), (.d (.sl (List.map (rI .i64) v10.Kids)))]), (.box [(.d (.int .i64 v10.Op)), (.d (.int .i64 v10.N)), (.d (.str v10.S)), (.d (.str v10.Name)), (.d (.str v10.Src)), (.own (st.length + 7) w11)]), (.row AO w11 (List.map TE.row v12))]) ?_ ?_
       · refine Af ?_
         unfold AR3
         refine Ab (e_t h11) ?_
         refine AA (e_t (em rfl h7)) (by rfl) ?_
         refine Ao (e_t eh) (gx 5 rfl) (by rfl) ?_
         refine Bc (row := (rI .i64)) (AN (e_t eh) Bo) ?_
         refine Ap (e_t (Ac rfl (em rfl eh))) (e_t eh) (Da ?_)
         refine Ab (e_t eh) ?_
         refine Ar eh hr (fun hr => ?_) (fun hr => ?_)
         rotate_left
         · refine Ah eh (Ah (em rfl eh) (An (e_t (Ac rfl eh)) e_c (Aa (Ae ?_))))
           exact ⟨false, hr, (Ak rfl (Ac rfl h0)), (Ak rfl (Ac rfl h1)), (Ak rfl (Ac rfl h4)), (Ak rfl (Ac rfl h5)), (Ak rfl (Ac rfl h6)), (Ak rfl (Ac rfl h7)), (Ak rfl (Ac rfl h8)), (Ak rfl (Ac rfl h9)), (Ak rfl (Ac rfl h10)), (Ak rfl (Ac rfl h11)), eh, rfl⟩
         refine Aj eh (Ab (e_t (Ad rfl (Ac rfl (em rfl h11)))) (Aj (em rfl eh) ?_))
         refine Ap (e_t eh) e_c (Da ?_)
         refine Am (e_t (Ac rfl eh)) (e_t eh) (Aa (Ae ?_))
         exact ⟨(decide (v15 < (4 : Int))), hr, (Ak rfl (Ac rfl h0)), (Ak rfl (Ac rfl h1)), (Ak rfl (Ac rfl h4)), (Ak rfl (Ac rfl h5)), (Ak rfl (Ac rfl h6)), (Ak rfl (Ac rfl h7)), (Ak rfl (Ac rfl h8)), (Ak rfl (Ac rfl h9)), (Ak rfl (Ac rfl h10)), (Ak rfl (Ac rfl h11)), eh, rfl⟩
       rintro f st' ⟨v16, hr, h0, h1, h4, h5, h6, h7, h8, h9, h10, h11, h57, rfl⟩
       rw [Fe] at hr
       refine AB (e_t h57) hr (fun hr => ?_) (fun hr => ?_)
       rotate_left
       · refine Dj ?_
         refine A8 ?_
         refine A8 ?_
         refine Fo ?_
         refine Ae ?_
         exact ⟨v12, v13, v14, w11, hr, h0, h1, h4, h5, h6, h8, h9, h10, rfl⟩
       refine AM (Ae (Al ?_))
       refine A3 ?_
       refine Al (Af ?_)
       unfold AU4
       refine AA (e_t h7) (by rfl) ?_
       refine Ao (e_t eh) (gx 5 rfl) (by rfl) ?_
       refine Ab (e_t (Ac rfl h11)) ?_
       refine Bt (row := (rI .i64)) (AN (e_t (em rfl eh)) Bo) (e_t eh) hr (fun _ => rfl) (fun _ => rfl) (fun v17 hr => ?_)
       refine BF (e_t eh) (by rfl) ?_
       refine Ab (e_t (Ad rfl (em rfl h6))) ?_
       obtain ⟨v18, hc_v18, hr⟩ := bind_some hr
       refine AY (Az (e_t (em rfl eh)) AF (Az (e_t eh) AF A1)) ?_
       refine Bd6 v17 v8 hc_v18 ?_
       refine Ab (e_t eh) (Aa (Ae (Al (Af ?_))))
       unfold AK7
       refine Ab (e_t eh) ?_
       refine Ap (e_t eh) e_c (E5 ?_)
       refine Aa (Ae ?_)
       refine AB (e_t eh) hr (fun hr => ?_) (fun hr => ?_)
       rotate_left
       · refine AM ?_
         refine BQ ?_
         refine Ae (Af ?_)
         unfold XZ
         refine Ab (e_t (Ak rfl (Ac rfl h11))) ?_
         refine Ap (e_t eh) e_c (B4 ?_)
         refine Ab (e_t eh) (Aa (Ae ?_))
         exact ⟨m_1, _, Nat.lt_succ_self m_1, Ghost.refl _, v12, v13, v14, (IntKind.wrap .i64 (v15 + (1 : Int))), w11, (by rw [hrec_1]; exact hr), (Ak rfl (Ad rfl (em rfl h0))), (Ak rfl (Ad rfl (em rfl h1))), (Ak rfl (Ad rfl (em rfl h4))), (Ak rfl (Ad rfl (em rfl h5))), (Ak rfl (Ad rfl (em rfl h6))), (Ak rfl (Ad rfl (em rfl h7))), (Ak rfl (Ad rfl (em rfl h8))), (Ak rfl (Ad rfl (em rfl h9))), (Ak rfl (Ad rfl (em rfl h10))), eh, rfl⟩
       refine Al ?_
       refine EQ (k := 8) rfl rfl ?_
       unfold Av5
       refine AA (e_t (Ak rfl (Ac rfl h8))) (by rfl) ?_
       refine Ao (e_t eh) (gx 6 rfl) (by rfl) ?_
       refine AA (e_t (Ak rfl (Ad rfl h5))) (by rfl) ?_
       refine Ao (e_t eh) (gx 1 rfl) (by rfl) ?_
       refine Ab (e_t (Ad rfl (Ac rfl eh))) ?_
       refine Bt (row := TE.row) (AN (e_t (em rfl eh)) (Mv (gx 2 rfl))) (e_t eh) hr TE.row_eq (fun _ => rfl) (fun v19 hr => ?_)
       refine Ft (e_t eh) (Nat.le_of_ble_eq_true rfl) (by rfl) ?_
       refine DW (rows := List.map TE.row [v19]) (YJ (by simp only [List.map, TE.row_eq]) (AC (e_t eh) Bi (Au f_d (Au f_d (Au f_d (Au f_d (Au f_d (Au f_d AJ)))))) rfl FJ)) ?_
       refine JL (row := TE.row) (AN (e_t eh) S4) TE.row_eq (fun _ => rfl) (e_t (Ad rfl (Ac rfl eh))) (gx 7 rfl) (fun _ => (BD rfl _ _)) hr (fun v20 hr => ?_)
       refine AA (e_t (Ai rfl (Ac rfl (em rfl h8)))) (by rfl) ?_
       refine BB (e_t eh) (gx 6 rfl) (e_t (em rfl eh)) rfl rfl (Nat.le_of_ble_eq_true rfl) (by rfl) (cells' := [(.d (.int .i64 v10.Op)), (.d (.int .i64 v10.N)), (.d (.str v10.S)), (.d (.str v10.Name)), (.d (.str v10.Src)), (.own (st.length + 7) (w11 + 1))]) (by rfl) (BD rfl _ _) ?_
       refine Aa (Ae (Al (Af ?_)))
       unfold AH8
       refine Ab (e_t (Ai rfl (Ad rfl h9))) ?_
       refine AA (e_t (Ai rfl (Ad rfl (em rfl h5)))) (by rfl) ?_
       refine Ao (e_t eh) (gx 1 rfl) (by rfl) ?_
       refine Ab (e_t (Ak rfl (Ad rfl (Ac rfl (em rfl eh))))) ?_
       refine Bt (row := (rI .i64)) (AN (e_t (em rfl eh)) (Mv (gx 3 rfl))) (e_t eh) hr (fun _ => rfl) (fun _ => rfl) (fun v21 hr => ?_)
       refine BF (e_t eh) (by rfl) ?_
       refine Ap (e_t (Ad rfl (em rfl eh))) (e_t eh) (B4 ?_)
       refine Ab (e_t eh) (Aa (Ae (Af ?_)))
       unfold AK0
       refine Ab (e_t (Ai rfl (Ak rfl (Ad rfl h10)))) ?_
       refine AA (e_t (Ai rfl (Ak rfl (Ad rfl (em rfl h5))))) (by rfl) ?_
       refine Ao (e_t eh) (gx 1 rfl) (by rfl) ?_
       refine Ab (e_t (Ai rfl (Ad rfl (Ac rfl (em rfl eh))))) ?_
       refine Bt (row := (rI .i64)) (AN (e_t (em rfl eh)) (Mv (gx 4 rfl))) (e_t eh) hr (fun _ => rfl) (fun _ => rfl) (fun v22 hr => ?_)
       refine BF (e_t eh) (by rfl) ?_
       refine Ap (e_t eh) e_c (B4 ?_)
       refine Bl7 (e_t (Ad rfl (Ac rfl eh))) (Bk0 (e_t eh) (Ag2 ?_))
       refine Ab (e_t eh) (Aa ?_)
       refine BQ ?_
       refine Ae (Af ?_)
       unfold XZ
       refine Ab (e_t (Ai rfl (Ai rfl (Ad rfl (em rfl h11))))) ?_
       refine Ap (e_t eh) e_c (B4 ?_)
       refine Ab (e_t eh) (Aa (Ae ?_))
       exact ⟨m_1, _, Nat.lt_succ_self m_1, Ghost.cut _ (st.length + 8) (Nat.le_add_right _ _), v20, (IntKind.wrap .i64 (v13 + v21)), (max v14 (IntKind.wrap .i64 (v22 + (1 : Int)))), (IntKind.wrap .i64 (v15 + (1 : Int))), (w11 + 1), (by rw [hrec_1]; exact hr), ((congrArg (cutV _) (Ai rfl (Ai rfl (Ad rfl (Ad rfl h0))))).trans (v_d)), ((congrArg (cutV _) (Ai rfl (Ai rfl (Ad rfl (Ad rfl h1))))).trans (v_d)), ((congrArg (cutV _) (Ai rfl (Ai rfl (Ad rfl (Ad rfl h4))))).trans (by simp [cutV, AP])), ((congrArg (cutV _) (Ai rfl (Ai rfl (Ad rfl (Ad rfl h5))))).trans (by simp [cutV, AP])), ((congrArg (cutV _) (Ai rfl (Ai rfl (Ad rfl (Ad rfl h6))))).trans (v_d)), ((congrArg (cutV _) (Ai rfl (Ai rfl (Ad rfl (Ad rfl h7))))).trans (by simp [cutV, AP])), ((congrArg (cutV _) (Ai rfl (Ai rfl (Ad rfl (Ad rfl h8))))).trans (by simp [cutV, AP])), ((congrArg (cutV _) (Ak rfl (Ad rfl eh))).trans (v_d)), ((congrArg (cutV _) (Ac rfl (em rfl eh))).trans (v_d)), ((congrArg (cutV _) eh).trans (v_d)), (H1 (l0 := [(.box [(.ex []), (.ex []), (.ex []), (.ex []), (.ex []), (.ex [])]), (.box [(.own (st.length + 2) w2), (.own (st.length + 3) w4), (.own (st.length + 4) w6), (.ex []), (.ex []), (.ex [])]), (.row AO w2 (List.map TE.row v3)), (.row A7 w4 (List.map (rI .i64) v5)), (.row A7 w6 (List.map (rI .i64) v7)), (.box [(.d (.int .i64 v10.Op)), (.d (.int .i64 v10.N)), (.d (.str v10.S)), (.d (.str v10.Name)), (.d (.str v10.Src)), (.d (.sl (List.map (rI .i64) v10.Kids)))]), (.box [(.d (.int .i64 v10.Op)), (.d (.int .i64 v10.N)), (.d (.str v10.S)), (.d (.str v10.Name)), (.d (.str v10.Src)), (.own (st.length + 7) (w11 + 1))]), (.row AO (w11 + 1) (List.map TE.row v20))]) (l1 := _) hwf rfl rfl (by simp [X2, cutV, AP, AP.belowL]))⟩
   refine Dj ?_
   refine A8 ?_
   refine A8 ?_
   refine Fo ?_
   refine Ae (Al (Al (Af ?_)))
   unfold AL5
   refine Ab e_c (Aa (Ae ?_))
   refine A3 ?_
   refine Cy (fun m f st' => ∃ (v27 : (List TS)), ∃ (v29 : (List Int)), ∃ (v31 : (List Int)), ∃ (v32 : Int), ∃ (w26 : Nat), ∃ (w28 : Nat), ∃ (w30 : Nat), B7 p1 n v3 v5 v7 m v27 v29 v31 v32 = some r ∧ f 1 = (.d (.sl (List.map TKnot.row p1))) ∧ f 4 = (.ptr (st.length + 0) 0) ∧ f 5 = (.ptr (st.length + 1) 0) ∧ f 13 = (.d (.int .i64 v32)) ∧ st' = st ++ [(.box [(.ex []), (.ex []), (.ex []), (.ex []), (.ex []), (.ex [])]), (.box [(.own (st.length + 2) w2), (.own (st.length + 3) w4), (.own (st.length + 4) w6), (.own (st.length + 5) w26), (.own (st.length + 6) w28), (.own (st.length + 7) w30)]), (.row AO w2 (List.map TE.row v3)), (.row A7 w4 (List.map (rI .i64) v5)), (.row A7 w6 (List.map (rI .i64) v7)), (.row AZ w26 (List.map TS.row v27)), (.row A7 w28 (List.map (rI .i64) v29)), (.row A7 w30 (List.map (rI .i64) v31))]) n (Ghost.trans (Gu (k := 5) (cells := [(.own (st.length + 2) w2), (.own (st.length + 3) w4), (.own (st.length + 4) w6), (.ex []), (.ex []), (.ex [])]) 1 3 (List.map TS.row ([])) AZ 8 rfl rfl rfl rfl rfl (Qi TS.row_eq)) (Ghost.trans (Gu (k := 6) (cells := [(.own (st.length + 2) w2), (.own (st.length + 3) w4), (.own (st.length + 4) w6), (.own (st.length + 5) 0), (.ex []), (.ex [])]) 1 4 (List.map (rI .i64) ([])) A7 1 rfl rfl rfl rfl rfl (Qi (fun _ => rfl))) (Gu (k := 7) (cells := [(.own (st.length + 2) w2), (.own (st.length + 3) w4), (.own (st.length + 4) w6), (.own (st.length + 5) 0), (.own (st.length + 6) 0), (.ex [])]) 1 5 (List.map (rI .i64) ([])) A7 1 rfl rfl rfl rfl rfl (Qi (fun _ => rfl))))) ⟨[], [], [], (0 : Int), 0, 0, 0, hr, (em rfl h1), (em rfl h4), (em rfl h5), eh, rfl⟩ ?_
   rintro m f st' ⟨v27, v29, v31, v32, w26, w28, w30, hr, h1, h4, h5, h13, rfl⟩
   cases m with
   | zero => cases hr
   | succ m_2 =>
     rw [B7] at hr
     generalize hrec_2 : B7 p1 n v3 v5 v7 m_2 = q2 at hr
     rw [IE] at hr
     unfold AH6
     refine Al ?_
     refine BL (fun f st' => ∃ (v33 : Bool), FW p1 n v3 v5 v7 v27 v29 v31 v32 q2 v33 = some r ∧ f 1 = (.d (.sl (List.map TKnot.row p1))) ∧ f 4 = (.ptr (st.length + 0) 0) ∧ f 5 = (.ptr (st.length + 1) 0) ∧ f 13 = (.d (.int .i64 v32)) ∧ f 125 = (.d (.bool v33)) ∧ st' = st ++ [(.box [(.ex []), (.ex []), (.ex []), (.ex []), (.ex []), (.ex [])]), (.box [(.own (st.length + 2) w2), (.own (st.length + 3) w4), (.own (st.length + 4) w6), (.own (st.length + 5) w26), (.own (st.length + 6) w28), (.own (st.length + 7) w30)]), (.row AO w2 (List.map TE.row v3)), (.row A7 w4 (List.map (rI .i64) v5)), (.row A7 w6 (List.map (rI .i64) v7)), (.row AZ w26 (List.map TS.row v27)), (.row A7 w28 (List.map (rI .i64) v29)), (.row A7 w30 (List.map (rI .i64) v31))]) ?_ ?_
     · refine Af ?_
       unfold Aw5
       refine Ab (e_t h13) (Ab (e_t (em rfl h1)) ?_)
       refine Bc (row := TKnot.row) (AN (e_t eh) Bo) ?_
       refine Ap (e_t (Ac rfl eh)) (e_t eh) (Da ?_)
       refine Ab (e_t eh) ?_
       refine Ar eh hr (fun hr => ?_) (fun hr => ?_)
       rotate_left
       · refine Ah eh (Ah (em rfl eh) (An (e_t (Ac rfl eh)) e_c (Aa (Ae ?_))))
         exact ⟨false, hr, (Ak rfl (em rfl h1)), (Ak rfl (em rfl h4)), (Ak rfl (em rfl h5)), (Ak rfl (em rfl h13)), eh, rfl⟩
       refine Aj eh (Ab (e_t (Ad rfl (Ac rfl h13))) (Aj (em rfl eh) ?_))
       refine Ap (e_t eh) e_c (Da ?_)
       refine Am (e_t (Ac rfl eh)) (e_t eh) (Aa (Ae ?_))
       exact ⟨(decide (v32 < (50 : Int))), hr, (Ak rfl (em rfl h1)), (Ak rfl (em rfl h4)), (Ak rfl (em rfl h5)), (Ak rfl (em rfl h13)), eh, rfl⟩
     rintro f st' ⟨v33, hr, h1, h4, h5, h13, h125, rfl⟩
     rw [FW] at hr
     refine AB (e_t h125) hr (fun hr => ?_) (fun hr => ?_)
     rotate_left
     · refine Dj ?_
       refine A8 ?_
       refine A8 ?_
       refine Fo ?_
       refine Ae (Al (Af ?_))
       unfold AK2
       refine Cn (e_t h5) (gx 1 rfl) (Nat.le_of_ble_eq_true rfl) (by rfl) ?_
       refine BB (e_t (em rfl h4)) (gx 0 rfl) (e_t eh) Bi rfl (Nat.le_of_ble_eq_true rfl) (by rfl) (cells' := [(.own (st.length + 2) w2), (.own (st.length + 3) w4), (.own (st.length + 4) w6), (.own (st.length + 5) w26), (.own (st.length + 6) w28), (.own (st.length + 7) w30)]) (by rfl) (BD rfl _ _) ?_
       refine Aa (Ae (AH ?_))
       cases hr
       exact A5 (Iz (em rfl h4) (gx 0 rfl) (Nat.le_of_ble_eq_true rfl) (by rfl) AG) (AK (Cw (Aq (Ta (gx 2 rfl)) (Aq (Ta (gx 3 rfl)) (Aq (Ta (gx 4 rfl)) (Aq (Ta (gx 5 rfl)) (Aq (Ta (gx 6 rfl)) (Aq (Ta (gx 7 rfl)) Dg))))))) (AY4 rfl)) (As hwf) h
     refine AM (Ae (Al ?_))
     refine A3 ?_
     refine Al (Af ?_)
     unfold AM0
     refine Ab (e_t h1) (Ab (e_t (em rfl h13)) ?_)
     refine Bt (row := TKnot.row) (AN (e_t (em rfl eh)) Bo) (e_t eh) hr TKnot.row_eq (fun _ => rfl) (fun v34 hr => ?_)
     refine Ft (e_t eh) (Nat.le_of_ble_eq_true rfl) (by rfl) ?_
     refine Dv (k := 8) rfl rfl ?_
     refine BB (e_t eh) (gx 8 rfl) (e_t (em rfl eh)) Bi rfl (Nat.le_of_ble_eq_true rfl) (by rfl) (cells' := [(.d (.int .i64 v34.Op)), (.d (.str v34.Name)), (.d (.str v34.Src)), (.d (.int .i64 v34.N)), (.d (.sl (List.map rS v34.Cols))), (.d (.sl (List.map (rI .i64) v34.Exprs))), (.d (.sl (List.map (rI .i64) v34.Body))), (.d (.sl (List.map (rI .i64) v34.Else)))]) (by rfl) (BD rfl _ _) ?_
     refine Aa (Ae (Al (Af ?_)))
     unfold AF1
     refine AA (e_t eh) (by rfl) ?_
     refine Ao (e_t eh) (gx 8 rfl) (by rfl) ?_
     refine AA (e_t (Ac rfl eh)) (by rfl) ?_
     refine Ao (e_t eh) (gx 8 rfl) (by rfl) ?_
     refine AA (e_t (Ad rfl eh)) (by rfl) ?_
     refine Ao (e_t eh) (gx 8 rfl) (by rfl) ?_
     refine AA (e_t (Ad rfl (Ac rfl eh))) (by rfl) ?_
     refine Ao (e_t eh) (gx 8 rfl) (by rfl) ?_
     refine AA (e_t (Ad rfl (Ad rfl eh))) (by rfl) ?_
     refine Ao (e_t eh) (gx 8 rfl) (by rfl) ?_
     refine T2 (cs := [(.d (.int .i64 v34.Op)), (.d (.str v34.Name)), (.d (.str v34.Src)), (.d (.int .i64 v34.N)), (.d (.sl (List.map rS v34.Cols))), (.ex []), (.ex []), (.ex [])]) (DZ (e_t (Ad rfl (Ad rfl eh))) A2 rfl (Nat.le_of_ble_eq_true rfl) (by rfl) (DZ (e_t (Ad rfl (Ac rfl eh))) A2 rfl (Nat.le_of_ble_eq_true rfl) (by rfl) (DZ (e_t (Ad rfl eh)) A2 rfl (Nat.le_of_ble_eq_true rfl) (by rfl) (DZ (e_t (Ac rfl eh)) A2 rfl (Nat.le_of_ble_eq_true rfl) (by rfl) (DZ (e_t eh) A2 rfl (Nat.le_of_ble_eq_true rfl) (by rfl) Ae4))))) (DX (e_t (Ad rfl (Ad rfl eh))) A2 (by rfl) (DX (e_t (Ad rfl (Ac rfl eh))) A2 (by rfl) (DX (e_t (Ad rfl eh)) A2 (by rfl) (DX (e_t (Ac rfl eh)) A2 (by rfl) (DX (e_t eh) A2 (by rfl) Ab6))))) ?_
     refine Dv (k := 9) rfl rfl ?_
     refine BB (e_t eh) (gx 9 rfl) (e_t (em rfl eh)) Bi rfl (Nat.le_of_ble_eq_true rfl) (by rfl) (cells' := [(.d (.int .i64 v34.Op)), (.d (.str v34.Name)), (.d (.str v34.Src)), (.d (.int .i64 v34.N)), (.d (.sl (List.map rS v34.Cols))), (.ex []), (.ex []), (.ex [])]) (by rfl) (BD rfl _ _) ?_
     refine Aa (Ae (Al (Af ?_)))
     unfold AH0
     refine Ab e_c (Ab e_c (Aa (Ae ?_)))
     refine BL (fun f st' => ∃ (v36 : (List TE)), ∃ (v37 : Int), ∃ (v38 : Int), ∃ (w35 : Nat), GR n v27 v29 v31 v32 q2 v34 v36 v37 v38 = some r ∧ f 1 = (.d (.sl (List.map TKnot.row p1))) ∧ f 4 = (.ptr (st.length + 0) 0) ∧ f 5 = (.ptr (st.length + 1) 0) ∧ f 13 = (.d (.int .i64 v32)) ∧ f 14 = (.ptr (st.length + 8) 0) ∧ f 15 = (.ptr (st.length + 9) 0) ∧ f 16 = (.d (.int .i64 v37)) ∧ f 17 = (.d (.int .i64 v38)) ∧ st' = st ++ [(.box [(.ex []), (.ex []), (.ex []), (.ex []), (.ex []), (.ex [])]), (.box [(.own (st.length + 2) w2), (.own (st.length + 3) w4), (.own (st.length + 4) w6), (.own (st.length + 5) w26), (.own (st.length + 6) w28), (.own (st.length + 7) w30)]), (.row AO w2 (List.map TE.row v3)), (.row A7 w4 (List.map (rI .i64) v5)), (.row A7 w6 (List.map (rI .i64) v7)), (.row AZ w26 (List.map TS.row v27)), (.row A7 w28 (List.map (rI .i64) v29)), (.row A7 w30 (List.map (rI .i64) v31)), (.box [(.d (.int .i64 v34.Op)), (.d (.str v34.Name)), (.d (.str v34.Src)), (.d (.int .i64 v34.N)), (.d (.sl (List.map rS v34.Cols))), (.d (.sl (List.map (rI .i64) v34.Exprs))), (.d (.sl (List.map (rI .i64) v34.Body))), (.d (.sl (List.map (rI .i64) v34.Else)))]), (.box [(.d (.int .i64 v34.Op)), (.d (.str v34.Name)), (.d (.str v34.Src)), (.d (.int .i64 v34.N)), (.d (.sl (List.map rS v34.Cols))), (.own (st.length + 10) w35), (.ex []), (.ex [])]), (.row AO w35 (List.map TE.row v36))]) ?_ ?_
     · refine Al (Af ?_)
       unfold AK8
       refine Ab e_c (Aa (Ae ?_))
       refine A3 ?_
       refine Cy (fun m f st' => ∃ (v36 : (List TE)), ∃ (v37 : Int), ∃ (v38 : Int), ∃ (v39 : Int), ∃ (w35 : Nat), Co n v3 v5 v7 v27 v29 v31 v32 q2 v34 m v36 v37 v38 v39 = some r ∧ f 1 = (.d (.sl (List.map TKnot.row p1))) ∧ f 4 = (.ptr (st.length + 0) 0) ∧ f 5 = (.ptr (st.length + 1) 0) ∧ f 13 = (.d (.int .i64 v32)) ∧ f 14 = (.ptr (st.length + 8) 0) ∧ f 15 = (.ptr (st.length + 9) 0) ∧ f 16 = (.d (.int .i64 v37)) ∧ f 17 = (.d (.int .i64 v38)) ∧ f 18 = (.d (.int .i64 v39)) ∧ st' = st ++ [(.box [(.ex []), (.ex []), (.ex []), (.ex []), (.ex []), (.ex [])]), (.box [(.own (st.length + 2) w2), (.own (st.length + 3) w4), (.own (st.length + 4) w6), (.own (st.length + 5) w26), (.own (st.length + 6) w28), (.own (st.length + 7) w30)]), (.row AO w2 (List.map TE.row v3)), (.row A7 w4 (List.map (rI .i64) v5)), (.row A7 w6 (List.map (rI .i64) v7)), (.row AZ w26 (List.map TS.row v27)), (.row A7 w28 (List.map (rI .i64) v29)), (.row A7 w30 (List.map (rI .i64) v31)), (.box [(.d (.int .i64 v34.Op)), (.d (.str v34.Name)), (.d (.str v34.Src)), (.d (.int .i64 v34.N)), (.d (.sl (List.map rS v34.Cols))), (.d (.sl (List.map (rI .i64) v34.Exprs))), (.d (.sl (List.map (rI .i64) v34.Body))), (.d (.sl (List.map (rI .i64) v34.Else)))]), (.box [(.d (.int .i64 v34.Op)), (.d (.str v34.Name)), (.d (.str v34.Src)), (.d (.int .i64 v34.N)), (.d (.sl (List.map rS v34.Cols))), (.own (st.length + 10) w35), (.ex []), (.ex [])]), (.row AO w35 (List.map TE.row v36))]) n (Gu (k := 10) (cells := [(.d (.int .i64 v34.Op)), (.d (.str v34.Name)), (.d (.str v34.Src)), (.d (.int .i64 v34.N)), (.d (.sl (List.map rS v34.Cols))), (.ex []), (.ex []), (.ex [])]) 9 5 (List.map TE.row ([])) AO 6 rfl rfl rfl rfl rfl (Qi TE.row_eq)) ⟨[], (1 : Int), (1 : Int), (0 : Int), 0, hr, (Ai rfl (Ad rfl h1)), (Ai rfl (Ad rfl h4)), (Ai rfl (Ad rfl h5)), (Ai rfl (Ad rfl h13)), (Ak rfl (Ad rfl (Ac rfl (em rfl eh)))), (Ac rfl (em rfl eh)), (Ac rfl eh), (em rfl eh), eh, rfl⟩ ?_
       rintro m f st' ⟨v36, v37, v38, v39, w35, hr, h1, h4, h5, h13, h14, h15, h16, h17, h18, rfl⟩
       cases m with
       | zero => cases hr
       | succ m_4 =>
         rw [Co] at hr
         generalize hrec_4 : Co n v3 v5 v7 v27 v29 v31 v32 q2 v34 m_4 = q4 at hr
         rw [IJ] at hr
         unfold AC2
         refine Al ?_
         refine BL (fun f st' => ∃ (v40 : Bool), E8 n v3 v5 v7 v27 v29 v31 v32 q2 v34 v36 v37 v38 v39 q4 v40 = some r ∧ f 1 = (.d (.sl (List.map TKnot.row p1))) ∧ f 4 = (.ptr (st.length + 0) 0) ∧ f 5 = (.ptr (st.length + 1) 0) ∧ f 13 = (.d (.int .i64 v32)) ∧ f 14 = (.ptr (st.length + 8) 0) ∧ f 15 = (.ptr (st.length + 9) 0) ∧ f 16 = (.d (.int .i64 v37)) ∧ f 17 = (.d (.int .i64 v38)) ∧ f 18 = (.d (.int .i64 v39)) ∧ f 151 = (.d (.bool v40)) ∧ st' = st ++ [(.box [(.ex []), (.ex []), (.ex []), (.ex []), (.ex []), (.ex [])]), (.box [(.own (st.length + 2) w2), (.own (st.length + 3) w4), (.own (st.length + 4) w6), (.own (st.length + 5) w26), (.own (st.length + 6) w28), (.own (st.length + 7) w30)]), (.row AO w2 (List.map TE.row v3)), (.row A7 w4 (List.map (rI .i64) v5)), (.row A7 w6 (List.map (rI .i64) v7)), (.row AZ w26 (List.map TS.row v27)), (.row A7 w28 (List.map (rI .i64) v29)), (.row A7 w30 (List.map (rI .i64) v31)), (.box [(.d (.int .i64 v34.Op)), (.d (.str v34.Name)), (.d (.str v34.Src)), (.d (.int .i64 v34.N)), (.d (.sl (List.map rS v34.Cols))), (.d (.sl (List.map (rI .i64) v34.Exprs))), (.d (.sl (List.map (rI .i64) v34.Body))), (.d (.sl (List.map (rI .i64) v34.Else)))]), (.box [(.d (.int .i64 v34.Op)), (.d (.str v34.Name)), (.d (.str v34.Src)), (.d (.int .i64 v34.N)), (.d (.sl (List.map rS v34.Cols))), (.own (st.length + 10) w35), (.ex []), (.ex [])]), (.row AO w35 (List.map TE.row v36))]) ?_ ?_
         · refine Af ?_
           unfold Au4
           refine Ab (e_t h18) ?_
           refine AA (e_t (em rfl h14)) (by rfl) ?_
           refine Ao (e_t eh) (gx 8 rfl) (by rfl) ?_
           refine Bc (row := (rI .i64)) (AN (e_t eh) Bo) ?_
           refine Ap (e_t (Ac rfl (em rfl eh))) (e_t eh) (Da ?_)
           refine Ab (e_t eh) ?_
           refine Ar eh hr (fun hr => ?_) (fun hr => ?_)
           rotate_left
           · refine Ah eh (Ah (em rfl eh) (An (e_t (Ac rfl eh)) e_c (Aa (Ae ?_))))
             exact ⟨false, hr, (Ak rfl (Ac rfl h1)), (Ak rfl (Ac rfl h4)), (Ak rfl (Ac rfl h5)), (Ak rfl (Ac rfl h13)), (Ak rfl (Ac rfl h14)), (Ak rfl (Ac rfl h15)), (Ak rfl (Ac rfl h16)), (Ak rfl (Ac rfl h17)), (Ak rfl (Ac rfl h18)), eh, rfl⟩
           refine Aj eh (Ab (e_t (Ad rfl (Ac rfl (em rfl h18)))) (Aj (em rfl eh) ?_))
           refine Ap (e_t eh) e_c (Da ?_)
           refine Am (e_t (Ac rfl eh)) (e_t eh) (Aa (Ae ?_))
           exact ⟨(decide (v39 < (10 : Int))), hr, (Ak rfl (Ac rfl h1)), (Ak rfl (Ac rfl h4)), (Ak rfl (Ac rfl h5)), (Ak rfl (Ac rfl h13)), (Ak rfl (Ac rfl h14)), (Ak rfl (Ac rfl h15)), (Ak rfl (Ac rfl h16)), (Ak rfl (Ac rfl h17)), (Ak rfl (Ac rfl h18)), eh, rfl⟩
         rintro f st' ⟨v40, hr, h1, h4, h5, h13, h14, h15, h16, h17, h18, h151, rfl⟩
         rw [E8] at hr
         refine AB (e_t h151) hr (fun hr => ?_) (fun hr => ?_)
         rotate_left
         · refine Dj ?_
           refine A8 ?_
           refine A8 ?_
           refine Fo ?_
           refine Ae ?_
           exact ⟨v36, v37, v38, w35, hr, h1, h4, h5, h13, h14, h15, h16, h17, rfl⟩
         refine AM (Ae (Al ?_))
         refine A3 ?_
         refine Al ?_
         refine EQ (k := 11) rfl rfl ?_
         unfold AM6
         refine AA (e_t h14) (by rfl) ?_
         refine Ao (e_t eh) (gx 8 rfl) (by rfl) ?_
         refine Ab (e_t (Ac rfl h18)) ?_
         refine Bt (row := (rI .i64)) (AN (e_t (em rfl eh)) Bo) (e_t eh) hr (fun _ => rfl) (fun _ => rfl) (fun v41 hr => ?_)
         refine BF (e_t eh) (by rfl) ?_
         refine AA (e_t (Ad rfl (em rfl h5))) (by rfl) ?_
         refine Ao (e_t eh) (gx 1 rfl) (by rfl) ?_
         refine Bc (row := TE.row) (AN (e_t eh) (Mv (gx 2 rfl))) ?_
         obtain ⟨v42, hc_v42, hr⟩ := bind_some hr
         refine Ce1 (Az (e_t (Ac rfl (em rfl eh))) AF (Az (e_t eh) AF A1)) (fun st2 => Bd6 v41 (v3.length : Int) hc_v42 ⟨rfl, rfl⟩) ?_
         refine Ab (e_t eh) (Aa (Ae (Al (Af ?_))))
         unfold AM7
         refine Ab (e_t eh) ?_
         refine Ap (e_t eh) e_c (E5 ?_)
         refine Aa (Ae ?_)
         refine AB (e_t eh) hr (fun hr => ?_) (fun hr => ?_)
         rotate_left
         · refine AM ?_
           refine BQ ?_
           refine Ae (Af ?_)
           unfold Ys
           refine Ab (e_t (Ak rfl (Ad rfl h18))) ?_
           refine Ap (e_t eh) e_c (B4 ?_)
           refine Ab (e_t eh) (Aa (Ae ?_))
           exact ⟨m_4, _, Nat.lt_succ_self m_4, Ghost.cut _ (st.length + 11) (Nat.le_add_right _ _), v36, v37, v38, (IntKind.wrap .i64 (v39 + (1 : Int))), w35, (by rw [hrec_4]; exact hr), ((congrArg (cutV _) (Ak rfl (Ad rfl (Ac rfl (em rfl h1))))).trans (v_d)), ((congrArg (cutV _) (Ak rfl (Ad rfl (Ac rfl (em rfl h4))))).trans (by simp [cutV, AP])), ((congrArg (cutV _) (Ak rfl (Ad rfl (Ac rfl (em rfl h5))))).trans (by simp [cutV, AP])), ((congrArg (cutV _) (Ak rfl (Ad rfl (Ac rfl (em rfl h13))))).trans (v_d)), ((congrArg (cutV _) (Ak rfl (Ad rfl (Ac rfl (em rfl h14))))).trans (by simp [cutV, AP])), ((congrArg (cutV _) (Ak rfl (Ad rfl (Ac rfl (em rfl h15))))).trans (by simp [cutV, AP])), ((congrArg (cutV _) (Ak rfl (Ad rfl (Ac rfl (em rfl h16))))).trans (v_d)), ((congrArg (cutV _) (Ak rfl (Ad rfl (Ac rfl (em rfl h17))))).trans (v_d)), ((congrArg (cutV _) eh).trans (v_d)), (H1 (l0 := [(.box [(.ex []), (.ex []), (.ex []), (.ex []), (.ex []), (.ex [])]), (.box [(.own (st.length + 2) w2), (.own (st.length + 3) w4), (.own (st.length + 4) w6), (.own (st.length + 5) w26), (.own (st.length + 6) w28), (.own (st.length + 7) w30)]), (.row AO w2 (List.map TE.row v3)), (.row A7 w4 (List.map (rI .i64) v5)), (.row A7 w6 (List.map (rI .i64) v7)), (.row AZ w26 (List.map TS.row v27)), (.row A7 w28 (List.map (rI .i64) v29)), (.row A7 w30 (List.map (rI .i64) v31)), (.box [(.d (.int .i64 v34.Op)), (.d (.str v34.Name)), (.d (.str v34.Src)), (.d (.int .i64 v34.N)), (.d (.sl (List.map rS v34.Cols))), (.d (.sl (List.map (rI .i64) v34.Exprs))), (.d (.sl (List.map (rI .i64) v34.Body))), (.d (.sl (List.map (rI .i64) v34.Else)))]), (.box [(.d (.int .i64 v34.Op)), (.d (.str v34.Name)), (.d (.str v34.Src)), (.d (.int .i64 v34.N)), (.d (.sl (List.map rS v34.Cols))), (.own (st.length + 10) w35), (.ex []), (.ex [])]), (.row AO w35 (List.map TE.row v36))]) (l1 := _) hwf rfl rfl (by simp [X2, cutV, AP, AP.belowL]))⟩
         refine Al ?_
         refine EQ (k := 12) rfl rfl ?_
         unfold Ax8
         refine AA (e_t (Ak rfl (Ad rfl h15))) (by rfl) ?_
         refine Ao (e_t eh) (gx 9 rfl) (by rfl) ?_
         refine AA (e_t (Ak rfl (Ad rfl (Ac rfl h5)))) (by rfl) ?_
         refine Ao (e_t eh) (gx 1 rfl) (by rfl) ?_
         refine Ab (e_t (Ad rfl (Ac rfl eh))) ?_
         refine Bt (row := TE.row) (AN (e_t (em rfl eh)) (Mv (gx 2 rfl))) (e_t eh) hr TE.row_eq (fun _ => rfl) (fun v43 hr => ?_)
         refine Ft (e_t eh) (Nat.le_of_ble_eq_true rfl) (by rfl) ?_
         refine DW (rows := List.map TE.row [v43]) (YJ (by simp only [List.map, TE.row_eq]) (AC (e_t eh) Bi (Au f_d (Au f_d (Au f_d (Au f_d (Au f_d (Au f_d AJ)))))) rfl FJ)) ?_
         refine JL (row := TE.row) (AN (e_t eh) S4) TE.row_eq (fun _ => rfl) (e_t (Ad rfl (Ac rfl eh))) (gx 10 rfl) (fun _ => (BD rfl _ _)) hr (fun v44 hr => ?_)
         refine AA (e_t (Ai rfl (Ad rfl (em rfl h15)))) (by rfl) ?_
         refine BB (e_t eh) (gx 9 rfl) (e_t (em rfl eh)) rfl rfl (Nat.le_of_ble_eq_true rfl) (by rfl) (cells' := [(.d (.int .i64 v34.Op)), (.d (.str v34.Name)), (.d (.str v34.Src)), (.d (.int .i64 v34.N)), (.d (.sl (List.map rS v34.Cols))), (.own (st.length + 10) (w35 + 1)), (.ex []), (.ex [])]) (by rfl) (BD rfl _ _) ?_
         refine Aa (Ae (Al (Af ?_)))
         unfold AH3
         refine Ab (e_t (Ai rfl (Ad rfl (Ac rfl h16)))) ?_
         refine AA (e_t (Ai rfl (Ad rfl (Ac rfl (em rfl h5))))) (by rfl) ?_
         refine Ao (e_t eh) (gx 1 rfl) (by rfl) ?_
         refine Ab (e_t (Ak rfl (Ad rfl (Ac rfl (em rfl eh))))) ?_
         refine Bt (row := (rI .i64)) (AN (e_t (em rfl eh)) (Mv (gx 3 rfl))) (e_t eh) hr (fun _ => rfl) (fun _ => rfl) (fun v45 hr => ?_)
         refine BF (e_t eh) (by rfl) ?_
         refine Ap (e_t (Ad rfl (em rfl eh))) (e_t eh) (B4 ?_)
         refine Ab (e_t eh) (Aa (Ae (Af ?_)))
         unfold AK5
         refine Ab (e_t (Ai rfl (Ak rfl (Ad rfl (Ac rfl h17))))) ?_
         refine AA (e_t (Ai rfl (Ak rfl (Ad rfl (Ac rfl (em rfl h5)))))) (by rfl) ?_
         refine Ao (e_t eh) (gx 1 rfl) (by rfl) ?_
         refine Ab (e_t (Ai rfl (Ad rfl (Ac rfl (em rfl eh))))) ?_
         refine Bt (row := (rI .i64)) (AN (e_t (em rfl eh)) (Mv (gx 4 rfl))) (e_t eh) hr (fun _ => rfl) (fun _ => rfl) (fun v46 hr => ?_)
         refine BF (e_t eh) (by rfl) ?_
         refine Ap (e_t eh) e_c (B4 ?_)
         refine Bl7 (e_t (Ad rfl (Ac rfl eh))) (Bk0 (e_t eh) (Ag2 ?_))
         refine Ab (e_t eh) (Aa ?_)
         refine BQ ?_
         refine Ae (Af ?_)
         unfold Ys
         refine Ab (e_t (Ai rfl (Ai rfl (Ad rfl (Ac rfl (em rfl h18)))))) ?_
         refine Ap (e_t eh) e_c (B4 ?_)
         refine Ab (e_t eh) (Aa (Ae ?_))
         exact ⟨m_4, _, Nat.lt_succ_self m_4, Ghost.cut _ (st.length + 11) (Nat.le_add_right _ _), v44, (IntKind.wrap .i64 (v37 + v45)), (max v38 (IntKind.wrap .i64 (v46 + (1 : Int)))), (IntKind.wrap .i64 (v39 + (1 : Int))), (w35 + 1), (by rw [hrec_4]; exact hr), ((congrArg (cutV _) (Ai rfl (Ai rfl (Ak rfl (Ac rfl h1))))).trans (v_d)), ((congrArg (cutV _) (Ai rfl (Ai rfl (Ak rfl (Ac rfl h4))))).trans (by simp [cutV, AP])), ((congrArg (cutV _) (Ai rfl (Ai rfl (Ak rfl (Ac rfl h5))))).trans (by simp [cutV, AP])), ((congrArg (cutV _) (Ai rfl (Ai rfl (Ak rfl (Ac rfl h13))))).trans (v_d)), ((congrArg (cutV _) (Ai rfl (Ai rfl (Ak rfl (Ac rfl h14))))).trans (by simp [cutV, AP])), ((congrArg (cutV _) (Ai rfl (Ai rfl (Ak rfl (Ac rfl h15))))).trans (by simp [cutV, AP])), ((congrArg (cutV _) (Ak rfl (Ad rfl eh))).trans (v_d)), ((congrArg (cutV _) (Ac rfl (em rfl eh))).trans (v_d)), ((congrArg (cutV _) eh).trans (v_d)), (H1 (l0 := [(.box [(.ex []), (.ex []), (.ex []), (.ex []), (.ex []), (.ex [])]), (.box [(.own (st.length + 2) w2), (.own (st.length + 3) w4), (.own (st.length + 4) w6), (.own (st.length + 5) w26), (.own (st.length + 6) w28), (.own (st.length + 7) w30)]), (.row AO w2 (List.map TE.row v3)), (.row A7 w4 (List.map (rI .i64) v5)), (.row A7 w6 (List.map (rI .i64) v7)), (.row AZ w26 (List.map TS.row v27)), (.row A7 w28 (List.map (rI .i64) v29)), (.row A7 w30 (List.map (rI .i64) v31)), (.box [(.d (.int .i64 v34.Op)), (.d (.str v34.Name)), (.d (.str v34.Src)), (.d (.int .i64 v34.N)), (.d (.sl (List.map rS v34.Cols))), (.d (.sl (List.map (rI .i64) v34.Exprs))), (.d (.sl (List.map (rI .i64) v34.Body))), (.d (.sl (List.map (rI .i64) v34.Else)))]), (.box [(.d (.int .i64 v34.Op)), (.d (.str v34.Name)), (.d (.str v34.Src)), (.d (.int .i64 v34.N)), (.d (.sl (List.map rS v34.Cols))), (.own (st.length + 10) (w35 + 1)), (.ex []), (.ex [])]), (.row AO (w35 + 1) (List.map TE.row v44))]) (l1 := _) hwf rfl rfl (by simp [X2, cutV, AP, AP.belowL]))⟩
     rintro f st' ⟨v36, v37, v38, w35, hr, h1, h4, h5, h13, h14, h15, h16, h17, rfl⟩
     rw [GR] at hr
     refine BL (fun f st' => ∃ (v48 : (List TS)), ∃ (v50 : (List TS)), ∃ (v51 : Int), ∃ (v52 : Int), ∃ (w47 : Nat), ∃ (w49 : Nat), GW v27 v29 v31 v32 q2 v34 v36 v48 v50 v51 v52 = some r ∧ f 1 = (.d (.sl (List.map TKnot.row p1))) ∧ f 4 = (.ptr (st.length + 0) 0) ∧ f 5 = (.ptr (st.length + 1) 0) ∧ f 13 = (.d (.int .i64 v32)) ∧ f 15 = (.ptr (st.length + 9) 0) ∧ f 16 = (.d (.int .i64 v51)) ∧ f 17 = (.d (.int .i64 v52)) ∧ st' = st ++ [(.box [(.ex []), (.ex []), (.ex []), (.ex []), (.ex []), (.ex [])]), (.box [(.own (st.length + 2) w2), (.own (st.length + 3) w4), (.own (st.length + 4) w6), (.own (st.length + 5) w26), (.own (st.length + 6) w28), (.own (st.length + 7) w30)]), (.row AO w2 (List.map TE.row v3)), (.row A7 w4 (List.map (rI .i64) v5)), (.row A7 w6 (List.map (rI .i64) v7)), (.row AZ w26 (List.map TS.row v27)), (.row A7 w28 (List.map (rI .i64) v29)), (.row A7 w30 (List.map (rI .i64) v31)), (.box [(.d (.int .i64 v34.Op)), (.d (.str v34.Name)), (.d (.str v34.Src)), (.d (.int .i64 v34.N)), (.d (.sl (List.map rS v34.Cols))), (.d (.sl (List.map (rI .i64) v34.Exprs))), (.d (.sl (List.map (rI .i64) v34.Body))), (.d (.sl (List.map (rI .i64) v34.Else)))]), (.box [(.d (.int .i64 v34.Op)), (.d (.str v34.Name)), (.d (.str v34.Src)), (.d (.int .i64 v34.N)), (.d (.sl (List.map rS v34.Cols))), (.own (st.length + 10) w35), (.own (st.length + 11) w47), (.own (st.length + 12) w49)]), (.row AO w35 (List.map TE.row v36)), (.row AZ w47 (List.map TS.row v48)), (.row AZ w49 (List.map TS.row v50))]) ?_ ?_
     rotate_left
     · rintro f st' ⟨v48, v50, v51, v52, w47, w49, hr, h1, h4, h5, h13, h15, h16, h17, rfl⟩
       rw [GW] at hr
       refine Al (Af ?_)
       unfold AB8
       refine Ab (e_t h16) (Ab (e_t (em rfl h17)) ?_)
       refine AY (Az (e_t (em rfl eh)) AF (Az (e_t eh) AF A1)) ?_
       refine Bw0 v51 v52 rfl ?_
       refine Ab (e_t eh) ?_
       refine MZ (e_t eh) (by rfl) ?_
       refine MZ (e_t (em rfl eh)) (by rfl) ?_
       refine Ab (e_t (em rfl eh)) (Ab (e_t (em rfl eh)) (Aa (Ae (Al (Af ?_)))))
       unfold AJ3
       refine AA (e_t (Ad rfl (Ad rfl h5))) (by rfl) ?_
       refine Ao (e_t eh) (gx 1 rfl) (by rfl) ?_
       refine Cn (e_t (Ak rfl (Ac rfl h15))) (gx 9 rfl) (Nat.le_of_ble_eq_true rfl) (by rfl) ?_
       refine DW (rows := List.map TS.row [(⟨v34.Op, v34.Name, v34.Src, v34.N, v34.Cols, v36, v48, v50⟩ : TS)]) (YJ (by simp only [List.map, TS.row_eq]) (AC (e_t eh) Bi (Au f_d (Au f_d (Au f_d (Au f_d (Au f_d (Au (Ta (gx 10 rfl)) (Au (Ta (gx 11 rfl)) (Au (Ta (gx 12 rfl)) AJ)))))))) rfl FJ)) ?_
       refine JL (row := TS.row) (AN (e_t eh) S4) TS.row_eq (fun _ => rfl) (e_t (Ac rfl eh)) (gx 5 rfl) (fun _ => (BD rfl _ _)) hr (fun v66 hr => ?_)
       refine AA (e_t (Ak rfl (Ad rfl (em rfl h5)))) (by rfl) ?_
       refine BB (e_t eh) (gx 1 rfl) (e_t (em rfl eh)) rfl rfl (Nat.le_of_ble_eq_true rfl) (by rfl) (cells' := [(.own (st.length + 2) w2), (.own (st.length + 3) w4), (.own (st.length + 4) w6), (.own (st.length + 5) (w26 + 1)), (.own (st.length + 6) w28), (.own (st.length + 7) w30)]) (by rfl) (BD rfl _ _) ?_
       refine Aa (Ae (Al (Af ?_)))
       unfold AG2
       refine AA (e_t (Ak rfl (Ad rfl (Ac rfl h5)))) (by rfl) ?_
       refine Ao (e_t eh) (gx 1 rfl) (by rfl) ?_
       refine Ab (e_t (Ak rfl (em rfl eh))) ?_
       refine DW (rows := List.map (rI .i64) [(DI v51 v52).1]) ((AC (e_t eh) A2 (Au f_d AJ) rfl FJ)) ?_
       refine JL (row := (rI .i64)) (AN (e_t eh) S4) (fun _ => rfl) (fun _ => rfl) (e_t (Ac rfl eh)) (gx 6 rfl) (fun _ => (BD rfl _ _)) hr (fun v67 hr => ?_)
       refine AA (e_t (Ai rfl (Ac rfl (em rfl h5)))) (by rfl) ?_
       refine BB (e_t eh) (gx 1 rfl) (e_t (em rfl eh)) rfl rfl (Nat.le_of_ble_eq_true rfl) (by rfl) (cells' := [(.own (st.length + 2) w2), (.own (st.length + 3) w4), (.own (st.length + 4) w6), (.own (st.length + 5) (w26 + 1)), (.own (st.length + 6) (w28 + 1)), (.own (st.length + 7) w30)]) (by rfl) (BD rfl _ _) ?_
       refine Aa (Ae (Af ?_))
       unfold AI4
       refine AA (e_t (Ai rfl (Ad rfl h5))) (by rfl) ?_
       refine Ao (e_t eh) (gx 1 rfl) (by rfl) ?_
       refine Ab (e_t (Ak rfl (Ad rfl (Ac rfl eh)))) ?_
       refine DW (rows := List.map (rI .i64) [(DI v51 v52).2]) ((AC (e_t eh) A2 (Au f_d AJ) rfl FJ)) ?_
       refine JL (row := (rI .i64)) (AN (e_t eh) S4) (fun _ => rfl) (fun _ => rfl) (e_t (Ac rfl eh)) (gx 7 rfl) (fun _ => (BD rfl _ _)) hr (fun v68 hr => ?_)
       refine AA (e_t (Ai rfl (Ak rfl (em rfl h5)))) (by rfl) ?_
       refine BB (e_t eh) (gx 1 rfl) (e_t (em rfl eh)) rfl rfl (Nat.le_of_ble_eq_true rfl) (by rfl) (cells' := [(.own (st.length + 2) w2), (.own (st.length + 3) w4), (.own (st.length + 4) w6), (.own (st.length + 5) (w26 + 1)), (.own (st.length + 6) (w28 + 1)), (.own (st.length + 7) (w30 + 1))]) (by rfl) (BD rfl _ _) ?_
       refine Aa ?_
       refine BQ ?_
       refine Ae (Af ?_)
       unfold AC0
       refine Ab (e_t (Ai rfl (Ak rfl (Ac rfl h13)))) ?_
       refine Ap (e_t eh) e_c (B4 ?_)
       refine Ab (e_t eh) (Aa (Ae ?_))
       exact ⟨m_2, _, Nat.lt_succ_self m_2, Ghost.cut _ (st.length + 8) (Nat.le_add_right _ _), v66, v67, v68, (IntKind.wrap .i64 (v32 + (1 : Int))), (w26 + 1), (w28 + 1), (w30 + 1), (by rw [hrec_2]; exact hr), ((congrArg (cutV _) (Ai rfl (Ak rfl (Ad rfl (em rfl h1))))).trans (v_d)), ((congrArg (cutV _) (Ai rfl (Ak rfl (Ad rfl (em rfl h4))))).trans (by simp [cutV, AP])), ((congrArg (cutV _) (Ai rfl (Ak rfl (Ad rfl (em rfl h5))))).trans (by simp [cutV, AP])), ((congrArg (cutV _) eh).trans (v_d)), (H1 (l0 := [(.box [(.ex []), (.ex []), (.ex []), (.ex []), (.ex []), (.ex [])]), (.box [(.own (st.length + 2) w2), (.own (st.length + 3) w4), (.own (st.length + 4) w6), (.own (st.length + 5) (w26 + 1)), (.own (st.length + 6) (w28 + 1)), (.own (st.length + 7) (w30 + 1))]), (.row AO w2 (List.map TE.row v3)), (.row A7 w4 (List.map (rI .i64) v5)), (.row A7 w6 (List.map (rI .i64) v7)), (.row AZ (w26 + 1) (List.map TS.row v66)), (.row A7 (w28 + 1) (List.map (rI .i64) v67)), (.row A7 (w30 + 1) (List.map (rI .i64) v68))]) (l1 := _) hwf rfl rfl (by simp [X2, cutV, AP, AP.belowL]))⟩
     refine Al (Af ?_)
     unfold AI6
     refine Ab e_c (Aa (Ae ?_))
     refine A3 ?_
     refine Cy (fun m f st' => ∃ (v48 : (List TS)), ∃ (v50 : (List TS)), ∃ (v51 : Int), ∃ (v52 : Int), ∃ (v53 : Int), ∃ (w47 : Nat), ∃ (w49 : Nat), BY v27 v29 v31 v32 q2 v34 v36 m v48 v50 v51 v52 v53 = some r ∧ f 1 = (.d (.sl (List.map TKnot.row p1))) ∧ f 4 = (.ptr (st.length + 0) 0) ∧ f 5 = (.ptr (st.length + 1) 0) ∧ f 13 = (.d (.int .i64 v32)) ∧ f 14 = (.ptr (st.length + 8) 0) ∧ f 15 = (.ptr (st.length + 9) 0) ∧ f 16 = (.d (.int .i64 v51)) ∧ f 17 = (.d (.int .i64 v52)) ∧ f 20 = (.d (.int .i64 v53)) ∧ st' = st ++ [(.box [(.ex []), (.ex []), (.ex []), (.ex []), (.ex []), (.ex [])]), (.box [(.own (st.length + 2) w2), (.own (st.length + 3) w4), (.own (st.length + 4) w6), (.own (st.length + 5) w26), (.own (st.length + 6) w28), (.own (st.length + 7) w30)]), (.row AO w2 (List.map TE.row v3)), (.row A7 w4 (List.map (rI .i64) v5)), (.row A7 w6 (List.map (rI .i64) v7)), (.row AZ w26 (List.map TS.row v27)), (.row A7 w28 (List.map (rI .i64) v29)), (.row A7 w30 (List.map (rI .i64) v31)), (.box [(.d (.int .i64 v34.Op)), (.d (.str v34.Name)), (.d (.str v34.Src)), (.d (.int .i64 v34.N)), (.d (.sl (List.map rS v34.Cols))), (.d (.sl (List.map (rI .i64) v34.Exprs))), (.d (.sl (List.map (rI .i64) v34.Body))), (.d (.sl (List.map (rI .i64) v34.Else)))]), (.box [(.d (.int .i64 v34.Op)), (.d (.str v34.Name)), (.d (.str v34.Src)), (.d (.int .i64 v34.N)), (.d (.sl (List.map rS v34.Cols))), (.own (st.length + 10) w35), (.own (st.length + 11) w47), (.own (st.length + 12) w49)]), (.row AO w35 (List.map TE.row v36)), (.row AZ w47 (List.map TS.row v48)), (.row AZ w49 (List.map TS.row v50))]) n (Ghost.trans (Gu (k := 11) (cells := [(.d (.int .i64 v34.Op)), (.d (.str v34.Name)), (.d (.str v34.Src)), (.d (.int .i64 v34.N)), (.d (.sl (List.map rS v34.Cols))), (.own (st.length + 10) w35), (.ex []), (.ex [])]) 9 6 (List.map TS.row ([])) AZ 8 rfl rfl rfl rfl rfl (Qi TS.row_eq)) (Gu (k := 12) (cells := [(.d (.int .i64 v34.Op)), (.d (.str v34.Name)), (.d (.str v34.Src)), (.d (.int .i64 v34.N)), (.d (.sl (List.map rS v34.Cols))), (.own (st.length + 10) w35), (.own (st.length + 11) 0), (.ex [])]) 9 7 (List.map TS.row ([])) AZ 8 rfl rfl rfl rfl rfl (Qi TS.row_eq))) ⟨[], [], v37, v38, (0 : Int), 0, 0, hr, (em rfl h1), (em rfl h4), (em rfl h5), (em rfl h13), (em rfl h14), (em rfl h15), (em rfl h16), (em rfl h17), eh, rfl⟩ ?_
     rintro m f st' ⟨v48, v50, v51, v52, v53, w47, w49, hr, h1, h4, h5, h13, h14, h15, h16, h17, h20, rfl⟩
     cases m with
     | zero => cases hr
     | succ m_3 =>
       rw [BY] at hr
       generalize hrec_3 : BY v27 v29 v31 v32 q2 v34 v36 m_3 = q3 at hr
       rw [IL] at hr
       unfold AM2
       refine Al ?_
       refine BL (fun f st' => ∃ (v54 : Bool), Fk v27 v29 v31 v32 q2 v34 v36 q3 v48 v50 v51 v52 v53 v54 = some r ∧ f 1 = (.d (.sl (List.map TKnot.row p1))) ∧ f 4 = (.ptr (st.length + 0) 0) ∧ f 5 = (.ptr (st.length + 1) 0) ∧ f 13 = (.d (.int .i64 v32)) ∧ f 14 = (.ptr (st.length + 8) 0) ∧ f 15 = (.ptr (st.length + 9) 0) ∧ f 16 = (.d (.int .i64 v51)) ∧ f 17 = (.d (.int .i64 v52)) ∧ f 20 = (.d (.int .i64 v53)) ∧ f 202 = (.d (.bool v54)) ∧ st' = st ++ [(.box [(.ex []), (.ex []), (.ex []), (.ex []), (.ex []), (.ex [])]), (.box [(.own (st.length + 2) w2), (.own (st.length + 3) w4), (.own (st.length + 4) w6), (.own (st.length + 5) w26), (.own (st.length + 6) w28), (.own (st.length + 7) w30)]), (.row AO w2 (List.map TE.row v3)), (.row A7 w4 (List.map (rI .i64) v5)), (.row A7 w6 (List.map (rI .i64) v7)), (.row AZ w26 (List.map TS.row v27)), (.row A7 w28 (List.map (rI .i64) v29)), (.row A7 w30 (List.map (rI .i64) v31)), (.box [(.d (.int .i64 v34.Op)), (.d (.str v34.Name)), (.d (.str v34.Src)), (.d (.int .i64 v34.N)), (.d (.sl (List.map rS v34.Cols))), (.d (.sl (List.map (rI .i64) v34.Exprs))), (.d (.sl (List.map (rI .i64) v34.Body))), (.d (.sl (List.map (rI .i64) v34.Else)))]), (.box [(.d (.int .i64 v34.Op)), (.d (.str v34.Name)), (.d (.str v34.Src)), (.d (.int .i64 v34.N)), (.d (.sl (List.map rS v34.Cols))), (.own (st.length + 10) w35), (.own (st.length + 11) w47), (.own (st.length + 12) w49)]), (.row AO w35 (List.map TE.row v36)), (.row AZ w47 (List.map TS.row v48)), (.row AZ w49 (List.map TS.row v50))]) ?_ ?_
       · refine Af ?_
         unfold AB5
         refine Ab (e_t h20) ?_
         refine AA (e_t (em rfl h14)) (by rfl) ?_
         refine Ao (e_t eh) (gx 8 rfl) (by rfl) ?_
         refine Bc (row := (rI .i64)) (AN (e_t eh) Bo) ?_
         refine AA (e_t (Ad rfl h14)) (by rfl) ?_
         refine Ao (e_t eh) (gx 8 rfl) (by rfl) ?_
         refine Bc (row := (rI .i64)) (AN (e_t eh) Bo) ?_
         refine Ap (e_t (Ac rfl (em rfl eh))) (e_t eh) (B4 ?_)
         refine Ap (e_t (Ad rfl (Ac rfl (em rfl eh)))) (e_t eh) (Da ?_)
         refine Ab (e_t eh) ?_
         refine Ar eh hr (fun hr => ?_) (fun hr => ?_)
         rotate_left
         · refine Ah eh (Ah (em rfl eh) (An (e_t (Ac rfl eh)) e_c (Aa (Ae ?_))))
           exact ⟨false, hr, (Ak rfl (Ad rfl (Ac rfl h1))), (Ak rfl (Ad rfl (Ac rfl h4))), (Ak rfl (Ad rfl (Ac rfl h5))), (Ak rfl (Ad rfl (Ac rfl h13))), (Ak rfl (Ad rfl (Ac rfl h14))), (Ak rfl (Ad rfl (Ac rfl h15))), (Ak rfl (Ad rfl (Ac rfl h16))), (Ak rfl (Ad rfl (Ac rfl h17))), (Ak rfl (Ad rfl (Ac rfl h20))), eh, rfl⟩
         refine Aj eh (Ab (e_t (Ak rfl (Ac rfl (em rfl h20)))) (Aj (em rfl eh) ?_))
         refine Ap (e_t eh) e_c (Da ?_)
         refine Am (e_t (Ac rfl eh)) (e_t eh) (Aa (Ae ?_))
         exact ⟨(decide (v53 < (10 : Int))), hr, (Ak rfl (Ad rfl (Ac rfl h1))), (Ak rfl (Ad rfl (Ac rfl h4))), (Ak rfl (Ad rfl (Ac rfl h5))), (Ak rfl (Ad rfl (Ac rfl h13))), (Ak rfl (Ad rfl (Ac rfl h14))), (Ak rfl (Ad rfl (Ac rfl h15))), (Ak rfl (Ad rfl (Ac rfl h16))), (Ak rfl (Ad rfl (Ac rfl h17))), (Ak rfl (Ad rfl (Ac rfl h20))), eh, rfl⟩
       rintro f st' ⟨v54, hr, h1, h4, h5, h13, h14, h15, h16, h17, h20, h202, rfl⟩
       rw [Fk] at hr
       refine AB (e_t h202) hr (fun hr => ?_) (fun hr => ?_)
       rotate_left
       · refine Dj ?_
         refine A8 ?_
         refine A8 ?_
         refine Fo ?_
         refine Ae ?_
         exact ⟨v48, v50, v51, v52, w47, w49, hr, h1, h4, h5, h13, h15, h16, h17, rfl⟩
       refine AM (Ae (Al ?_))
       refine A3 ?_
       refine Al (Af ?_)
       unfold AE6
       refine Ab (e_t h20) ?_
       refine AA (e_t (em rfl h14)) (by rfl) ?_
       refine Ao (e_t eh) (gx 8 rfl) (by rfl) ?_
       refine Bc (row := (rI .i64)) (AN (e_t eh) Bo) ?_
       refine Ap (e_t (Ac rfl (em rfl eh))) (e_t eh) (Da ?_)
       refine Ab (e_t eh) (Aa (Ae (Al (Af ?_))))
       unfold AI5
       refine Ab e_c (Aa (Ae ?_))
       refine BL (fun f st' => ∃ (v59 : Int), EL v27 v29 v31 v34 q3 v48 v50 v51 v52 v53 v59 = some r ∧ f 1 = (.d (.sl (List.map TKnot.row p1))) ∧ f 4 = (.ptr (st.length + 0) 0) ∧ f 5 = (.ptr (st.length + 1) 0) ∧ f 13 = (.d (.int .i64 v32)) ∧ f 14 = (.ptr (st.length + 8) 0) ∧ f 15 = (.ptr (st.length + 9) 0) ∧ f 16 = (.d (.int .i64 v51)) ∧ f 17 = (.d (.int .i64 v52)) ∧ f 20 = (.d (.int .i64 v53)) ∧ f 21 = (.d (.bool (decide (v53 < (v34.Body.length : Int))))) ∧ f 22 = (.d (.int .i64 v59)) ∧ st' = st ++ [(.box [(.ex []), (.ex []), (.ex []), (.ex []), (.ex []), (.ex [])]), (.box [(.own (st.length + 2) w2), (.own (st.length + 3) w4), (.own (st.length + 4) w6), (.own (st.length + 5) w26), (.own (st.length + 6) w28), (.own (st.length + 7) w30)]), (.row AO w2 (List.map TE.row v3)), (.row A7 w4 (List.map (rI .i64) v5)), (.row A7 w6 (List.map (rI .i64) v7)), (.row AZ w26 (List.map TS.row v27)), (.row A7 w28 (List.map (rI .i64) v29)), (.row A7 w30 (List.map (rI .i64) v31)), (.box [(.d (.int .i64 v34.Op)), (.d (.str v34.Name)), (.d (.str v34.Src)), (.d (.int .i64 v34.N)), (.d (.sl (List.map rS v34.Cols))), (.d (.sl (List.map (rI .i64) v34.Exprs))), (.d (.sl (List.map (rI .i64) v34.Body))), (.d (.sl (List.map (rI .i64) v34.Else)))]), (.box [(.d (.int .i64 v34.Op)), (.d (.str v34.Name)), (.d (.str v34.Src)), (.d (.int .i64 v34.N)), (.d (.sl (List.map rS v34.Cols))), (.own (st.length + 10) w35), (.own (st.length + 11) w47), (.own (st.length + 12) w49)]), (.row AO w35 (List.map TE.row v36)), (.row AZ w47 (List.map TS.row v48)), (.row AZ w49 (List.map TS.row v50))]) ?_ ?_
       · refine Al (Af ?_)
         unfold AA8
         refine Ab (e_t (em rfl eh)) (Aa (Ae ?_))
         refine AB (e_t eh) hr (fun hr => ?_) (fun hr => ?_)
         · refine Af ?_
           unfold AA7
           refine AA (e_t (Ad rfl (Ad rfl h14))) (by rfl) ?_
           refine Ao (e_t eh) (gx 8 rfl) (by rfl) ?_
           refine Ab (e_t (Ak rfl (Ac rfl h20))) ?_
           refine Bt (row := (rI .i64)) (AN (e_t (em rfl eh)) Bo) (e_t eh) hr (fun _ => rfl) (fun _ => rfl) (fun v55 hr => ?_)
           refine BF (e_t eh) (by rfl) ?_
           refine Ab (e_t (Ak rfl (Ad rfl (em rfl h13)))) ?_
           obtain ⟨v56, hc_v56, hr⟩ := bind_some hr
           refine AY (Az (e_t (em rfl eh)) AF (Az (e_t eh) AF A1)) ?_
           refine Bd6 v55 v32 hc_v56 ?_
           refine Ab (e_t eh) (Aa (Ae ?_))
           exact ⟨v56, hr, (Ak rfl (Ad rfl (Ad rfl h1))), (Ak rfl (Ad rfl (Ad rfl h4))), (Ak rfl (Ad rfl (Ad rfl h5))), (Ak rfl (Ad rfl (Ad rfl h13))), (Ak rfl (Ad rfl (Ad rfl h14))), (Ak rfl (Ad rfl (Ad rfl h15))), (Ak rfl (Ad rfl (Ad rfl h16))), (Ak rfl (Ad rfl (Ad rfl h17))), (Ak rfl (Ad rfl (Ad rfl h20))), (Ak rfl (Ac rfl eh)), eh, rfl⟩
         refine Af ?_
         unfold Av6
         refine AA (e_t (Ad rfl (Ad rfl h14))) (by rfl) ?_
         refine Ao (e_t eh) (gx 8 rfl) (by rfl) ?_
         refine Ab (e_t (Ak rfl (Ac rfl h20))) ?_
         refine AA (e_t (Ak rfl (Ac rfl (em rfl h14)))) (by rfl) ?_
         refine Ao (e_t eh) (gx 8 rfl) (by rfl) ?_
         refine Bc (row := (rI .i64)) (AN (e_t eh) Bo) ?_
         refine Ap (e_t (Ac rfl (em rfl eh))) (e_t eh) (BA1 ?_)
         refine Bt (row := (rI .i64)) (AN (e_t (Ad rfl (em rfl eh))) Bo) (e_t eh) hr (fun _ => rfl) (fun _ => rfl) (fun v57 hr => ?_)
         refine BF (e_t eh) (by rfl) ?_
         refine Ab (e_t (Ai rfl (em rfl h13))) ?_
         obtain ⟨v58, hc_v58, hr⟩ := bind_some hr
         refine AY (Az (e_t (em rfl eh)) AF (Az (e_t eh) AF A1)) ?_
         refine Bd6 v57 v32 hc_v58 ?_
         refine Ab (e_t eh) (Aa (Ae ?_))
         exact ⟨v58, hr, (Ai rfl (Ad rfl h1)), (Ai rfl (Ad rfl h4)), (Ai rfl (Ad rfl h5)), (Ai rfl (Ad rfl h13)), (Ai rfl (Ad rfl h14)), (Ai rfl (Ad rfl h15)), (Ai rfl (Ad rfl h16)), (Ai rfl (Ad rfl h17)), (Ai rfl (Ad rfl h20)), (Ak rfl (Ad rfl (Ac rfl eh))), eh, rfl⟩
       rintro f st' ⟨v59, hr, h1, h4, h5, h13, h14, h15, h16, h17, h20, h21, h22, rfl⟩
       rw [EL] at hr
       refine Al (Al (Af ?_))
       unfold Aw4
       refine Ab (e_t h22) ?_
       refine Ap (e_t eh) e_c (Da ?_)
       refine Aa (Ae ?_)
       refine AB (e_t eh) hr (fun hr => ?_) (fun hr => ?_)
       · refine Dj ?_
         refine A8 ?_
         refine Fo ?_
         refine Ae (Af ?_)
         unfold RV
         refine Ab (e_t (Ac rfl h20)) ?_
         refine Ap (e_t eh) e_c (B4 ?_)
         refine Ab (e_t eh) (Aa (Ae ?_))
         exact ⟨m_3, _, Nat.lt_succ_self m_3, Ghost.refl _, v48, v50, v51, v52, (IntKind.wrap .i64 (v53 + (1 : Int))), w47, w49, (by rw [hrec_3]; exact hr), (Ad rfl (em rfl h1)), (Ad rfl (em rfl h4)), (Ad rfl (em rfl h5)), (Ad rfl (em rfl h13)), (Ad rfl (em rfl h14)), (Ad rfl (em rfl h15)), (Ad rfl (em rfl h16)), (Ad rfl (em rfl h17)), eh, rfl⟩
       refine AM (Ae (Al (Af ?_)))
       unfold AM9
       refine Ab (e_t (Ac rfl h16)) ?_
       refine AA (e_t (Ac rfl (em rfl h5))) (by rfl) ?_
       refine Ao (e_t eh) (gx 1 rfl) (by rfl) ?_
       refine Ab (e_t (Ad rfl (em rfl h22))) ?_
       refine Bt (row := (rI .i64)) (AN (e_t (em rfl eh)) (Mv (gx 6 rfl))) (e_t eh) hr (fun _ => rfl) (fun _ => rfl) (fun v60 hr => ?_)
       refine BF (e_t eh) (by rfl) ?_
       refine Ap (e_t (Ad rfl (em rfl eh))) (e_t eh) (B4 ?_)
       refine Ab (e_t eh) (Aa (Ae (Al (Af ?_))))
       unfold AH1
       refine Ab (e_t (Ak rfl (Ac rfl h17))) ?_
       refine AA (e_t (Ak rfl (Ac rfl (em rfl h5)))) (by rfl) ?_
       refine Ao (e_t eh) (gx 1 rfl) (by rfl) ?_
       refine Ab (e_t (Ak rfl (Ad rfl (em rfl h22)))) ?_
       refine Bt (row := (rI .i64)) (AN (e_t (em rfl eh)) (Mv (gx 7 rfl))) (e_t eh) hr (fun _ => rfl) (fun _ => rfl) (fun v61 hr => ?_)
       refine BF (e_t eh) (by rfl) ?_
       refine Ap (e_t eh) e_c (B4 ?_)
       refine Bl7 (e_t (Ad rfl (Ac rfl eh))) (Bk0 (e_t eh) (Ag2 ?_))
       refine Ab (e_t eh) (Aa (Ae (Al (Af ?_))))
       unfold AJ6
       refine Ab (e_t (Ai rfl (Ac rfl (em rfl h21)))) (Aa (Ae ?_))
       refine AB (e_t eh) hr (fun hr => ?_) (fun hr => ?_)
       · refine EQ (k := 13) rfl rfl ?_
         unfold AG6
         refine AA (e_t (Ai rfl (Ad rfl h15))) (by rfl) ?_
         refine Ao (e_t eh) (gx 9 rfl) (by rfl) ?_
         refine AA (e_t (Ai rfl (Ad rfl (Ac rfl h5)))) (by rfl) ?_
         refine Ao (e_t eh) (gx 1 rfl) (by rfl) ?_
         refine Ab (e_t (Ai rfl (Ad rfl (Ad rfl h22)))) ?_
         refine Bt (row := TS.row) (AN (e_t (em rfl eh)) (Mv (gx 5 rfl))) (e_t eh) hr TS.row_eq (fun _ => rfl) (fun v62 hr => ?_)
         refine Ft (e_t eh) (Nat.le_of_ble_eq_true rfl) (by rfl) ?_
         refine DW (rows := List.map TS.row [v62]) (YJ (by simp only [List.map, TS.row_eq]) (AC (e_t eh) Bi (Au f_d (Au f_d (Au f_d (Au f_d (Au f_d (Au f_d (Au f_d (Au f_d AJ)))))))) rfl FJ)) ?_
         refine JL (row := TS.row) (AN (e_t eh) S4) TS.row_eq (fun _ => rfl) (e_t (Ad rfl (Ac rfl eh))) (gx 11 rfl) (fun _ => (BD rfl _ _)) hr (fun v63 hr => ?_)
         refine AA (e_t (Ai rfl (Ak rfl (Ad rfl (em rfl h15))))) (by rfl) ?_
         refine BB (e_t eh) (gx 9 rfl) (e_t (em rfl eh)) rfl rfl (Nat.le_of_ble_eq_true rfl) (by rfl) (cells' := [(.d (.int .i64 v34.Op)), (.d (.str v34.Name)), (.d (.str v34.Src)), (.d (.int .i64 v34.N)), (.d (.sl (List.map rS v34.Cols))), (.own (st.length + 10) w35), (.own (st.length + 11) (w47 + 1)), (.own (st.length + 12) w49)]) (by rfl) (BD rfl _ _) ?_
         refine Aa ?_
         refine BQ ?_
         refine Ae (Af ?_)
         unfold RV
         refine Ab (e_t (Ai rfl (Ak rfl (Ad rfl (Ac rfl h20))))) ?_
         refine Ap (e_t eh) e_c (B4 ?_)
         refine Ab (e_t eh) (Aa (Ae ?_))
         exact ⟨m_3, _, Nat.lt_succ_self m_3, Ghost.cut _ (st.length + 13) (Nat.le_add_right _ _), v63, v50, (IntKind.wrap .i64 (v51 + v60)), (max v52 (IntKind.wrap .i64 (v61 + (1 : Int)))), (IntKind.wrap .i64 (v53 + (1 : Int))), (w47 + 1), w49, (by rw [hrec_3]; exact hr), ((congrArg (cutV _) (Ai rfl (Ai rfl (em rfl h1)))).trans (v_d)), ((congrArg (cutV _) (Ai rfl (Ai rfl (em rfl h4)))).trans (by simp [cutV, AP])), ((congrArg (cutV _) (Ai rfl (Ai rfl (em rfl h5)))).trans (by simp [cutV, AP])), ((congrArg (cutV _) (Ai rfl (Ai rfl (em rfl h13)))).trans (v_d)), ((congrArg (cutV _) (Ai rfl (Ai rfl (em rfl h14)))).trans (by simp [cutV, AP])), ((congrArg (cutV _) (Ai rfl (Ai rfl (em rfl h15)))).trans (by simp [cutV, AP])), ((congrArg (cutV _) (Ai rfl (Ad rfl (Ac rfl (em rfl eh))))).trans (v_d)), ((congrArg (cutV _) (Ak rfl (Ad rfl (Ac rfl eh)))).trans (v_d)), ((congrArg (cutV _) eh).trans (v_d)), (H1 (l0 := [(.box [(.ex []), (.ex []), (.ex []), (.ex []), (.ex []), (.ex [])]), (.box [(.own (st.length + 2) w2), (.own (st.length + 3) w4), (.own (st.length + 4) w6), (.own (st.length + 5) w26), (.own (st.length + 6) w28), (.own (st.length + 7) w30)]), (.row AO w2 (List.map TE.row v3)), (.row A7 w4 (List.map (rI .i64) v5)), (.row A7 w6 (List.map (rI .i64) v7)), (.row AZ w26 (List.map TS.row v27)), (.row A7 w28 (List.map (rI .i64) v29)), (.row A7 w30 (List.map (rI .i64) v31)), (.box [(.d (.int .i64 v34.Op)), (.d (.str v34.Name)), (.d (.str v34.Src)), (.d (.int .i64 v34.N)), (.d (.sl (List.map rS v34.Cols))), (.d (.sl (List.map (rI .i64) v34.Exprs))), (.d (.sl (List.map (rI .i64) v34.Body))), (.d (.sl (List.map (rI .i64) v34.Else)))]), (.box [(.d (.int .i64 v34.Op)), (.d (.str v34.Name)), (.d (.str v34.Src)), (.d (.int .i64 v34.N)), (.d (.sl (List.map rS v34.Cols))), (.own (st.length + 10) w35), (.own (st.length + 11) (w47 + 1)), (.own (st.length + 12) w49)]), (.row AO w35 (List.map TE.row v36)), (.row AZ (w47 + 1) (List.map TS.row v63)), (.row AZ w49 (List.map TS.row v50))]) (l1 := _) hwf rfl rfl (by simp [X2, cutV, AP, AP.belowL]))⟩
       refine EQ (k := 13) rfl rfl ?_
       unfold Av3
       refine AA (e_t (Ai rfl (Ad rfl h15))) (by rfl) ?_
       refine Ao (e_t eh) (gx 9 rfl) (by rfl) ?_
       refine AA (e_t (Ai rfl (Ad rfl (Ac rfl h5)))) (by rfl) ?_
       refine Ao (e_t eh) (gx 1 rfl) (by rfl) ?_
       refine Ab (e_t (Ai rfl (Ad rfl (Ad rfl h22)))) ?_
       refine Bt (row := TS.row) (AN (e_t (em rfl eh)) (Mv (gx 5 rfl))) (e_t eh) hr TS.row_eq (fun _ => rfl) (fun v64 hr => ?_)
       refine Ft (e_t eh) (Nat.le_of_ble_eq_true rfl) (by rfl) ?_
       refine DW (rows := List.map TS.row [v64]) (YJ (by simp only [List.map, TS.row_eq]) (AC (e_t eh) Bi (Au f_d (Au f_d (Au f_d (Au f_d (Au f_d (Au f_d (Au f_d (Au f_d AJ)))))))) rfl FJ)) ?_
       refine JL (row := TS.row) (AN (e_t eh) S4) TS.row_eq (fun _ => rfl) (e_t (Ad rfl (Ac rfl eh))) (gx 12 rfl) (fun _ => (BD rfl _ _)) hr (fun v65 hr => ?_)
       refine AA (e_t (Ai rfl (Ak rfl (Ad rfl (em rfl h15))))) (by rfl) ?_
       refine BB (e_t eh) (gx 9 rfl) (e_t (em rfl eh)) rfl rfl (Nat.le_of_ble_eq_true rfl) (by rfl) (cells' := [(.d (.int .i64 v34.Op)), (.d (.str v34.Name)), (.d (.str v34.Src)), (.d (.int .i64 v34.N)), (.d (.sl (List.map rS v34.Cols))), (.own (st.length + 10) w35), (.own (st.length + 11) w47), (.own (st.length + 12) (w49 + 1))]) (by rfl) (BD rfl _ _) ?_
       refine Aa ?_
       refine BQ ?_
       refine Ae (Af ?_)
       unfold RV
       refine Ab (e_t (Ai rfl (Ak rfl (Ad rfl (Ac rfl h20))))) ?_
       refine Ap (e_t eh) e_c (B4 ?_)
       refine Ab (e_t eh) (Aa (Ae ?_))
       exact ⟨m_3, _, Nat.lt_succ_self m_3, Ghost.cut _ (st.length + 13) (Nat.le_add_right _ _), v48, v65, (IntKind.wrap .i64 (v51 + v60)), (max v52 (IntKind.wrap .i64 (v61 + (1 : Int)))), (IntKind.wrap .i64 (v53 + (1 : Int))), w47, (w49 + 1), (by rw [hrec_3]; exact hr), ((congrArg (cutV _) (Ai rfl (Ai rfl (em rfl h1)))).trans (v_d)), ((congrArg (cutV _) (Ai rfl (Ai rfl (em rfl h4)))).trans (by simp [cutV, AP])), ((congrArg (cutV _) (Ai rfl (Ai rfl (em rfl h5)))).trans (by simp [cutV, AP])), ((congrArg (cutV _) (Ai rfl (Ai rfl (em rfl h13)))).trans (v_d)), ((congrArg (cutV _) (Ai rfl (Ai rfl (em rfl h14)))).trans (by simp [cutV, AP])), ((congrArg (cutV _) (Ai rfl (Ai rfl (em rfl h15)))).trans (by simp [cutV, AP])), ((congrArg (cutV _) (Ai rfl (Ad rfl (Ac rfl (em rfl eh))))).trans (v_d)), ((congrArg (cutV _) (Ak rfl (Ad rfl (Ac rfl eh)))).trans (v_d)), ((congrArg (cutV _) eh).trans (v_d)), (H1 (l0 := [(.box [(.ex []), (.ex []), (.ex []), (.ex []), (.ex []), (.ex [])]), (.box [(.own (st.length + 2) w2), (.own (st.length + 3) w4), (.own (st.length + 4) w6), (.own (st.length + 5) w26), (.own (st.length + 6) w28), (.own (st.length + 7) w30)]), (.row AO w2 (List.map TE.row v3)), (.row A7 w4 (List.map (rI .i64) v5)), (.row A7 w6 (List.map (rI .i64) v7)), (.row AZ w26 (List.map TS.row v27)), (.row A7 w28 (List.map (rI .i64) v29)), (.row A7 w30 (List.map (rI .i64) v31)), (.box [(.d (.int .i64 v34.Op)), (.d (.str v34.Name)), (.d (.str v34.Src)), (.d (.int .i64 v34.N)), (.d (.sl (List.map rS v34.Cols))), (.d (.sl (List.map (rI .i64) v34.Exprs))), (.d (.sl (List.map (rI .i64) v34.Body))), (.d (.sl (List.map (rI .i64) v34.Else)))]), (.box [(.d (.int .i64 v34.Op)), (.d (.str v34.Name)), (.d (.str v34.Src)), (.d (.int .i64 v34.N)), (.d (.sl (List.map rS v34.Cols))), (.own (st.length + 10) w35), (.own (st.length + 11) w47), (.own (st.length + 12) (w49 + 1))]), (.row AO w35 (List.map TE.row v36)), (.row AZ w47 (List.map TS.row v48)), (.row AZ (w49 + 1) (List.map TS.row v65))]) (l1 := _) hwf rfl rfl (by simp [X2, cutV, AP, AP.belowL]))⟩
end Go.Ax
