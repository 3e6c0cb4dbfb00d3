import Derived.Test.YtojkpenjeglipaaPYT
import Derived.Test.YtojkpenjeglipaaPCVX
import Derived.Test.YtojkpenjeglipaaPCPrim
import Derived.Test.YtojkpenjeglipaaPYD1
import Derived.Test.YtojkpenjeglipaaPYD2
import Derived.Test.YtojkpenjeglipaaPYD3
set_option linter.unusedVariables false
set_option linter.unusedSimpArgs false
namespace Go.Ax
attribute [local irreducible] BQ EX FK Bg CQ FI B8 Le Ii upd ev u0 Dw frz A9 EK mmD bnd B2 FD Dq CR G3 HS Hg cutV JT Cy
variable {st : List Content}
def HE (p0 : TS) (v7 : Bool) (v21 : Bool) : Option Bool :=
 (bif v21 then (bif v7 then some true else some (decide ((p0.Else.length : Int) = (0 : Int)))) else some false)
def I6 (p0 : TS) (v6 : Bool) (v7 : Bool) (v20 : Bool) : Option Bool :=
 (bif v20 then (bif v6 then (HE p0 v7 true) else (HE p0 v7 (decide ((p0.Body.length : Int) = (0 : Int))))) else (HE p0 v7 false))
def Fe (p0 : TS) (v6 : Bool) (v7 : Bool) (v8 : Int) (v9 : Int) (v19 : Bool) : Option Bool :=
 (bif v19 then (I6 p0 v6 v7 (C9 (p0.Exprs.length : Int) v8 v9)) else (I6 p0 v6 v7 false))
def Dh (p0 : TS) (v5 : Bool) (v6 : Bool) (v7 : Bool) (v8 : Int) (v9 : Int) (v18 : Bool) : Option Bool :=
 (bif v18 then (bif v5 then (bif (C9 p0.N (0 : Int) (1000 : Int)) then (Fe p0 v6 v7 v8 v9 true) else (bif (!v5) then (Fe p0 v6 v7 v8 v9 (decide (p0.N = (0 : Int)))) else (Fe p0 v6 v7 v8 v9 false))) else (bif (!v5) then (Fe p0 v6 v7 v8 v9 (decide (p0.N = (0 : Int)))) else (Fe p0 v6 v7 v8 v9 false))) else (Fe p0 v6 v7 v8 v9 false))
def HM (p0 : TS) (n : Nat) (v4 : Bool) (v5 : Bool) (v6 : Bool) (v7 : Bool) (v8 : Int) (v9 : Int) (v15 : Bool) : Option Bool :=
 (bif v15 then (bif v4 then (bif (C9 (p0.Cols.length : Int) (1 : Int) (8 : Int)) then ((Gw n p0.Cols).bind fun v16 => (bif v16 then ((Nc p0.Cols).bind fun v17 => (bif v17 then (Dh p0 v5 v6 v7 v8 v9 true) else (bif (!v4) then (Dh p0 v5 v6 v7 v8 v9 (decide ((p0.Cols.length : Int) = (0 : Int)))) else (Dh p0 v5 v6 v7 v8 v9 false)))) else (bif (!v4) then (Dh p0 v5 v6 v7 v8 v9 (decide ((p0.Cols.length : Int) = (0 : Int)))) else (Dh p0 v5 v6 v7 v8 v9 false)))) else (bif (!v4) then (Dh p0 v5 v6 v7 v8 v9 (decide ((p0.Cols.length : Int) = (0 : Int)))) else (Dh p0 v5 v6 v7 v8 v9 false))) else (bif (!v4) then (Dh p0 v5 v6 v7 v8 v9 (decide ((p0.Cols.length : Int) = (0 : Int)))) else (Dh p0 v5 v6 v7 v8 v9 false))) else (Dh p0 v5 v6 v7 v8 v9 false))
def HC (p0 : TS) (n : Nat) (v4 : Bool) (v5 : Bool) (v6 : Bool) (v7 : Bool) (v8 : Int) (v9 : Int) (v10 : Bool) (v14 : Bool) : Option Bool :=
 (bif v14 then (bif v10 then (HM p0 n v4 v5 v6 v7 v8 v9 true) else (HM p0 n v4 v5 v6 v7 v8 v9 (decide (p0.Src = (⟨#[]⟩ : ByteArray))))) else (HM p0 n v4 v5 v6 v7 v8 v9 false))
def I8 (p0 : TS) (n : Nat) (v3 : Bool) (v4 : Bool) (v5 : Bool) (v6 : Bool) (v7 : Bool) (v8 : Int) (v9 : Int) (v10 : Bool) (v13 : Bool) : Option Bool :=
 (bif v13 then (bif v3 then (HC p0 n v4 v5 v6 v7 v8 v9 v10 true) else (HC p0 n v4 v5 v6 v7 v8 v9 v10 (decide (p0.Name = (⟨#[]⟩ : ByteArray))))) else (HC p0 n v4 v5 v6 v7 v8 v9 v10 false))
def Dj (p0 : TS) (n : Nat) (v3 : Bool) (v4 : Bool) (v5 : Bool) (v6 : Bool) (v7 : Bool) (v8 : Int) (v9 : Int) (v10 : Bool) : Option Bool :=
 ((Gw n (RH v3 p0.Name)).bind fun v11 => (bif v11 then ((Gw n (RH v10 p0.Src)).bind fun v12 => (I8 p0 n v3 v4 v5 v6 v7 v8 v9 v10 v12)) else (I8 p0 n v3 v4 v5 v6 v7 v8 v9 v10 false)))
def Ds (p0 : TS) (n : Nat) (v2 : Bool) : Option Bool :=
 (bif v2 then (Dj p0 n false false false false false (1 : Int) (8 : Int) true) else (bif (decide (p0.Op = (4 : Int))) then (Dj p0 n true true false false false (IntKind.wrap .i64 ((p0.Cols.length : Int) + (1 : Int))) (IntKind.wrap .i64 ((p0.Cols.length : Int) + (1 : Int))) true) else (bif (decide (p0.Op = (5 : Int))) then (Dj p0 n true false false false false (1 : Int) (1 : Int) true) else (bif (decide (p0.Op = (6 : Int))) then (Dj p0 n true false true true false (1 : Int) (1 : Int) true) else (bif (decide (p0.Op = (7 : Int))) then (Dj p0 n false false false true true (1 : Int) (1 : Int) false) else (bif (decide (p0.Op = (9 : Int))) then (Dj p0 n false false false false false (1 : Int) (1 : Int) false) else (bif (decide (p0.Op = (10 : Int))) then (Dj p0 n false false false false false (1 : Int) (8 : Int) false) else some false)))))))
def C4 (p0 : TS) (n : Nat) (v1 : Bool) : Option Bool :=
 (bif v1 then (Dj p0 n true false false false false (1 : Int) (1 : Int) false) else (bif (decide (p0.Op = (3 : Int))) then (Ds p0 n (decide (p0.Op = (3 : Int)))) else (Ds p0 n (decide (p0.Op = (8 : Int))))))
def Ee (n : Nat) (p0 : TS) : Option Bool :=
 (bif (decide (p0.Op = (1 : Int))) then (C4 p0 n (decide (p0.Op = (1 : Int)))) else (C4 p0 n (decide (p0.Op = (2 : Int)))))
set_option maxRecDepth 100000 in
set_option maxHeartbeats 4000000 in
theorem AP5 (n : Nat) (p0 : TS) {r : Bool} (hr : Ee n p0 = some r) {K : PV → List Content → Prop} (h : K (.d (.bool r)) st) : Av PR YI [(.agg [(.d (.int .i64 p0.Op)), (.d (.str p0.Name)), (.d (.str p0.Src)), (.d (.int .i64 p0.N)), (.d (.sl (List.map rS p0.Cols))), (.d (.sl (List.map TE.row p0.Exprs))), (.d (.sl (List.map TS.row p0.Body))), (.d (.sl (List.map TS.row p0.Else)))])] st K := by
 refine Av.of AK7 (Nat.le_of_ble_eq_true rfl) fun hwf => ?_
 rw [B5]
 refine AQ ?_
 unfold At1
 rw [Ee] at hr
 refine Al (Af ?_)
 unfold W8
 refine Gq (k := 0) rfl rfl (e_t eh) Bf (by exact rfl) ?_
 refine Ab e_c (Aa (Ae (Al (Af ?_))))
 unfold WD
 refine Ab e_c (Ab e_c (Ab e_c (Ab e_c (Ab e_c (Aa ?_)))))
 refine Ae (Al (Af ?_))
 unfold W7
 refine Ab e_c (Ab e_c (Aa (Ae (Al (Af ?_)))))
 unfold X0
 refine Ab e_c (Aa (Ae ?_))
 refine By (fun f st' => ∃ (v3 : Bool), ∃ (v4 : Bool), ∃ (v5 : Bool), ∃ (v6 : Bool), ∃ (v7 : Bool), ∃ (v8 : Int), ∃ (v9 : Int), ∃ (v10 : Bool), Dj p0 n v3 v4 v5 v6 v7 v8 v9 v10 = some r ∧ f 1 = (.ptr (st.length + 0) 0) ∧ f 3 = (.d (.bool v3)) ∧ f 4 = (.d (.bool v4)) ∧ f 5 = (.d (.bool v5)) ∧ f 6 = (.d (.bool v6)) ∧ f 7 = (.d (.bool v7)) ∧ f 8 = (.d (.int .i64 v8)) ∧ f 9 = (.d (.int .i64 v9)) ∧ f 10 = (.d (.bool v10)) ∧ st' = st ++ [(.box [(.d (.int .i64 p0.Op)), (.d (.str p0.Name)), (.d (.str p0.Src)), (.d (.int .i64 p0.N)), (.d (.sl (List.map rS p0.Cols))), (.d (.sl (List.map TE.row p0.Exprs))), (.d (.sl (List.map TS.row p0.Body))), (.d (.sl (List.map TS.row p0.Else)))])]) ?_ ?_
 · refine Al (Af ?_)
   unfold WN
   refine AB (e_t (Ak rfl (em rfl eh))) (by exact rfl) ?_
   refine Ap (e_t eh) ((Am rfl 0).trans rfl) (by exact rfl) ?_
   refine Aa (Ae ?_)
   refine AT ?_
   refine By (fun f st' => ∃ (v1 : Bool), C4 p0 n v1 = some r ∧ f 1 = (.ptr (st.length + 0) 0) ∧ f 3 = (.d (.bool false)) ∧ f 4 = (.d (.bool false)) ∧ f 5 = (.d (.bool false)) ∧ f 6 = (.d (.bool false)) ∧ f 7 = (.d (.bool false)) ∧ f 8 = (.d (.int .i64 (1 : Int))) ∧ f 9 = (.d (.int .i64 (1 : Int))) ∧ f 10 = (.d (.bool true)) ∧ f 12 = (.d (.int .i64 p0.Op)) ∧ f 13 = (.d (.bool v1)) ∧ st' = st ++ [(.box [(.d (.int .i64 p0.Op)), (.d (.str p0.Name)), (.d (.str p0.Src)), (.d (.int .i64 p0.N)), (.d (.sl (List.map rS p0.Cols))), (.d (.sl (List.map TE.row p0.Exprs))), (.d (.sl (List.map TS.row p0.Body))), (.d (.sl (List.map TS.row p0.Else)))])]) ?_ ?_
   · refine Al (Af ?_)
     unfold XY
     refine As (e_t eh) e_c (BK ?_)
     refine Ab (e_t eh) (Aa (Ae ?_))
     refine AC (e_t eh) hr (fun hr => ?_) (fun hr => ?_)
     · refine AO (Ae ?_)
       exact ⟨(decide (p0.Op = (1 : Int))), hr, (Ak rfl (Ad rfl (em rfl eh))), (Ak rfl (Ac rfl (em rfl eh))), (Ak rfl (Ac rfl eh)), (Ak rfl (em rfl eh)), (Ad rfl (Ad rfl eh)), (Ad rfl (Ac rfl (em rfl eh))), (Ad rfl (Ac rfl eh)), (Ad rfl (em rfl eh)), (Ad rfl eh), (Ac rfl eh), eh, rfl⟩
     refine Af ?_
     unfold XG
     refine As (e_t (Ac rfl eh)) e_c (BK ?_)
     refine Ab (e_t eh) (Aa (Ae ?_))
     exact ⟨(decide (p0.Op = (2 : Int))), hr, (Ak rfl (Ad rfl (Ac rfl (em rfl eh)))), (Ak rfl (Ad rfl (em rfl eh))), (Ak rfl (Ad rfl eh)), (Ak rfl (Ac rfl (em rfl eh))), (Ak rfl (Ac rfl eh)), (Ak rfl (em rfl eh)), (Ad rfl (Ad rfl eh)), (Ad rfl (Ac rfl (em rfl eh))), (Ad rfl (Ac rfl eh)), (Ad rfl eh), eh, rfl⟩
   rintro f st' ⟨v1, hr, h1, h3, h4, h5, h6, h7, h8, h9, h10, h12, h13, rfl⟩
   rw [C4] at hr
   refine AC (e_t h13) hr (fun hr => ?_) (fun hr => ?_)
   · refine Af ?_
     unfold XU
     refine Ab e_c (Ab e_c (Aa ?_))
     refine BB ?_
     refine Ae ?_
     exact ⟨true, false, false, false, false, (1 : Int), (1 : Int), false, hr, (Ac rfl h1), (em rfl eh), (Ac rfl h4), (Ac rfl h5), (Ac rfl h6), (Ac rfl h7), (Ac rfl h8), (Ac rfl h9), eh, rfl⟩
   refine By (fun f st' => ∃ (v2 : Bool), Ds p0 n v2 = some r ∧ f 1 = (.ptr (st.length + 0) 0) ∧ f 3 = (.d (.bool false)) ∧ f 4 = (.d (.bool false)) ∧ f 5 = (.d (.bool false)) ∧ f 6 = (.d (.bool false)) ∧ f 7 = (.d (.bool false)) ∧ f 8 = (.d (.int .i64 (1 : Int))) ∧ f 9 = (.d (.int .i64 (1 : Int))) ∧ f 10 = (.d (.bool true)) ∧ f 12 = (.d (.int .i64 p0.Op)) ∧ f 16 = (.d (.bool v2)) ∧ st' = st ++ [(.box [(.d (.int .i64 p0.Op)), (.d (.str p0.Name)), (.d (.str p0.Src)), (.d (.int .i64 p0.N)), (.d (.sl (List.map rS p0.Cols))), (.d (.sl (List.map TE.row p0.Exprs))), (.d (.sl (List.map TS.row p0.Body))), (.d (.sl (List.map TS.row p0.Else)))])]) ?_ ?_
   · refine Al (Af ?_)
     unfold Xj
     refine As (e_t h12) e_c (BK ?_)
     refine Ab (e_t eh) (Aa (Ae ?_))
     refine AC (e_t eh) hr (fun hr => ?_) (fun hr => ?_)
     · refine AO (Ae ?_)
       exact ⟨(decide (p0.Op = (3 : Int))), hr, (Ac rfl h1), (Ac rfl h3), (Ac rfl h4), (Ac rfl h5), (Ac rfl h6), (Ac rfl h7), (Ac rfl h8), (Ac rfl h9), (Ac rfl h10), (Ac rfl h12), eh, rfl⟩
     refine Af ?_
     unfold Xt
     refine As (e_t (Ac rfl h12)) e_c (BK ?_)
     refine Ab (e_t eh) (Aa (Ae ?_))
     exact ⟨(decide (p0.Op = (8 : Int))), hr, (Ad rfl h1), (Ad rfl h3), (Ad rfl h4), (Ad rfl h5), (Ad rfl h6), (Ad rfl h7), (Ad rfl h8), (Ad rfl h9), (Ad rfl h10), (Ad rfl h12), eh, rfl⟩
   rintro f st' ⟨v2, hr, h1, h3, h4, h5, h6, h7, h8, h9, h10, h12, h16, rfl⟩
   rw [Ds] at hr
   refine AC (e_t h16) hr (fun hr => ?_) (fun hr => ?_)
   · refine Af ?_
     unfold Ti
     refine Ab e_c (Aa ?_)
     refine BB ?_
     refine Ae ?_
     exact ⟨false, false, false, false, false, (1 : Int), (8 : Int), true, hr, (em rfl h1), (em rfl h3), (em rfl h4), (em rfl h5), (em rfl h6), (em rfl h7), (em rfl h8), eh, (em rfl h10), rfl⟩
   refine Al (Af ?_)
   unfold VD
   refine As (e_t h12) e_c (BK ?_)
   refine Ab (e_t eh) (Aa (Ae ?_))
   refine AC (e_t eh) hr (fun hr => ?_) (fun hr => ?_)
   · refine Al (Af ?_)
     unfold Un
     refine Ab e_c (Ab e_c (Aa (Ae ?_)))
     refine DP (k := 1) rfl rfl ?_
     unfold U4
     refine AB (e_t (Ad rfl h1)) (by exact rfl) ?_
     refine Ap (e_t eh) ((Am rfl 0).trans rfl) (by exact rfl) ?_
     refine Bh (row := rS) (AP (e_t eh) Bt) ?_
     refine As (e_t eh) e_c (BU ?_)
     refine AB (e_t (Ad rfl (Ad rfl h1))) (by exact rfl) ?_
     refine Ap (e_t eh) ((Am rfl 0).trans rfl) (by exact rfl) ?_
     refine Bh (row := rS) (AP (e_t eh) Bt) ?_
     refine As (e_t eh) e_c (BU ?_)
     refine Ab (e_t (Ad rfl eh)) (Ab (e_t (em rfl eh)) (Aa ?_))
     refine BB ?_
     refine Ae ?_
     exact ⟨true, true, false, false, false, (IntKind.wrap .i64 ((p0.Cols.length : Int) + (1 : Int))), (IntKind.wrap .i64 ((p0.Cols.length : Int) + (1 : Int))), true, hr, (Ak rfl (Ad rfl (Ac rfl h1))), (Ak rfl (Ac rfl (em rfl eh))), (Ak rfl (Ac rfl eh)), (Ak rfl (Ad rfl (Ac rfl h5))), (Ak rfl (Ad rfl (Ac rfl h6))), (Ak rfl (Ad rfl (Ac rfl h7))), (em rfl eh), eh, (Ak rfl (Ad rfl (Ac rfl h10))), rfl⟩
   refine Al (Af ?_)
   unfold U5
   refine As (e_t (Ac rfl h12)) e_c (BK ?_)
   refine Ab (e_t eh) (Aa (Ae ?_))
   refine AC (e_t eh) hr (fun hr => ?_) (fun hr => ?_)
   · refine Af ?_
     unfold VU
     refine Ab e_c (Aa ?_)
     refine BB ?_
     refine Ae ?_
     exact ⟨true, false, false, false, false, (1 : Int), (1 : Int), true, hr, (Ad rfl (em rfl h1)), eh, (Ad rfl (em rfl h4)), (Ad rfl (em rfl h5)), (Ad rfl (em rfl h6)), (Ad rfl (em rfl h7)), (Ad rfl (em rfl h8)), (Ad rfl (em rfl h9)), (Ad rfl (em rfl h10)), rfl⟩
   refine Al (Af ?_)
   unfold TI
   refine As (e_t (Ad rfl h12)) e_c (BK ?_)
   refine Ab (e_t eh) (Aa (Ae ?_))
   refine AC (e_t eh) hr (fun hr => ?_) (fun hr => ?_)
   · refine Af ?_
     unfold Vf
     refine Ab e_c (Ab e_c (Ab e_c (Aa ?_)))
     refine BB ?_
     refine Ae ?_
     exact ⟨true, false, true, true, false, (1 : Int), (1 : Int), true, hr, (Ak rfl (em rfl h1)), (Ac rfl eh), (Ak rfl (em rfl h4)), (em rfl eh), eh, (Ak rfl (em rfl h7)), (Ak rfl (em rfl h8)), (Ak rfl (em rfl h9)), (Ak rfl (em rfl h10)), rfl⟩
   refine Al (Af ?_)
   unfold VM
   refine As (e_t (Ad rfl (Ac rfl h12))) e_c (BK ?_)
   refine Ab (e_t eh) (Aa (Ae ?_))
   refine AC (e_t eh) hr (fun hr => ?_) (fun hr => ?_)
   · refine Af ?_
     unfold S8
     refine Ab e_c (Ab e_c (Ab e_c (Aa ?_)))
     refine BB ?_
     refine Ae ?_
     exact ⟨false, false, false, true, true, (1 : Int), (1 : Int), false, hr, (Ak rfl (Ac rfl (em rfl h1))), (Ak rfl (Ac rfl (em rfl h3))), (Ak rfl (Ac rfl (em rfl h4))), (Ak rfl (Ac rfl (em rfl h5))), (Ac rfl eh), (em rfl eh), (Ak rfl (Ac rfl (em rfl h8))), (Ak rfl (Ac rfl (em rfl h9))), eh, rfl⟩
   refine Al (Af ?_)
   unfold Uf
   refine As (e_t (Ad rfl (Ad rfl h12))) e_c (BK ?_)
   refine Ab (e_t eh) (Aa (Ae ?_))
   refine AC (e_t eh) hr (fun hr => ?_) (fun hr => ?_)
   · refine Af ?_
     unfold TZ
     refine Ab e_c (Aa ?_)
     refine BB ?_
     refine Ae ?_
     exact ⟨false, false, false, false, false, (1 : Int), (1 : Int), false, hr, (Ak rfl (Ac rfl (em rfl h1))), (Ak rfl (Ac rfl (em rfl h3))), (Ak rfl (Ac rfl (em rfl h4))), (Ak rfl (Ac rfl (em rfl h5))), (Ak rfl (Ac rfl (em rfl h6))), (Ak rfl (Ac rfl (em rfl h7))), (Ak rfl (Ac rfl (em rfl h8))), (Ak rfl (Ac rfl (em rfl h9))), eh, rfl⟩
   refine Al (Af ?_)
   unfold Ta
   refine As (e_t (Ak rfl (Ac rfl h12))) e_c (BK ?_)
   refine Ab (e_t eh) (Aa (Ae ?_))
   refine AC (e_t eh) hr (fun hr => ?_) (fun hr => ?_)
   · refine Af ?_
     unfold Tj
     refine Ab e_c (Ab e_c (Aa ?_))
     refine BB ?_
     refine Ae ?_
     exact ⟨false, false, false, false, false, (1 : Int), (8 : Int), false, hr, (Ak rfl (Ad rfl (Ac rfl h1))), (Ak rfl (Ad rfl (Ac rfl h3))), (Ak rfl (Ad rfl (Ac rfl h4))), (Ak rfl (Ad rfl (Ac rfl h5))), (Ak rfl (Ad rfl (Ac rfl h6))), (Ak rfl (Ad rfl (Ac rfl h7))), (Ak rfl (Ad rfl (Ac rfl h8))), (em rfl eh), eh, rfl⟩
   refine Al (Af ?_)
   unfold TY
   refine Ab e_c (Aa (Ae (AI ?_)))
   refine BH ?_
   refine AA ?_
   cases hr
   exact A7 (AG eh AH) (AN AF v_d) (Ay hwf) h
 rintro f st' ⟨v3, v4, v5, v6, v7, v8, v9, v10, hr, h1, h3, h4, h5, h6, h7, h8, h9, h10, rfl⟩
 rw [Dj] at hr
 refine Al (Af ?_)
 unfold UE
 refine A1 (fun f st' => ∃ (v13 : Bool), I8 p0 n v3 v4 v5 v6 v7 v8 v9 v10 v13 = some r ∧ f 1 = (.ptr (st.length + 0) 0) ∧ f 3 = (.d (.bool v3)) ∧ f 4 = (.d (.bool v4)) ∧ f 5 = (.d (.bool v5)) ∧ f 6 = (.d (.bool v6)) ∧ f 7 = (.d (.bool v7)) ∧ f 8 = (.d (.int .i64 v8)) ∧ f 9 = (.d (.int .i64 v9)) ∧ f 10 = (.d (.bool v10)) ∧ f 50 = (.d (.bool v13)) ∧ st' = st ++ [(.box [(.d (.int .i64 p0.Op)), (.d (.str p0.Name)), (.d (.str p0.Src)), (.d (.int .i64 p0.N)), (.d (.sl (List.map rS p0.Cols))), (.d (.sl (List.map TE.row p0.Exprs))), (.d (.sl (List.map TS.row p0.Body))), (.d (.sl (List.map TS.row p0.Else)))])]) ?_ ?_
 · unfold Rb
   refine Ab (e_t h3) ?_
   refine AB (e_t (em rfl h1)) (by exact rfl) ?_
   refine Ap (e_t eh) ((Am rfl 0).trans rfl) (by exact rfl) ?_
   refine AJ (Ar (e_t (Ac rfl eh)) AF (Ar (e_t eh) AF AM)) ?_
   refine AL8 v3 p0.Name rfl ?_
   obtain ⟨v11, hc_v11, hr⟩ := bind_some hr
   refine AJ (Ar (e_t eh) AF AM) ?_
   refine La n (RH v3 p0.Name) hc_v11 ?_
   refine Ab (e_t eh) ?_
   refine Au eh hr (fun hr => ?_) (fun hr => ?_)
   rotate_left
   · refine Ag eh (Ag (em rfl eh) (Ag (Ac rfl eh) (Ag (Ac rfl (em rfl eh)) (Ag (Ad rfl eh) (Ao (e_t (Ad rfl (em rfl eh))) e_c ?_)))))
     refine Aa ?_
     exact ⟨false, hr, (Ak rfl (Ad rfl (em rfl h1))), (Ak rfl (Ad rfl (em rfl h3))), (Ak rfl (Ad rfl (em rfl h4))), (Ak rfl (Ad rfl (em rfl h5))), (Ak rfl (Ad rfl (em rfl h6))), (Ak rfl (Ad rfl (em rfl h7))), (Ak rfl (Ad rfl (em rfl h8))), (Ak rfl (Ad rfl (em rfl h9))), (Ak rfl (Ad rfl (em rfl h10))), eh, rfl⟩
   refine Ai eh (Ab (e_t (Ad rfl (Ac rfl (em rfl h10)))) (Ai (em rfl eh) ?_))
   refine AB (e_t (Ad rfl (Ad rfl h1))) (by exact rfl) ?_
   refine Ai (Ac rfl eh) ?_
   refine Ap (e_t eh) ((Am rfl 0).trans rfl) (by exact rfl) ?_
   refine Ai (Ac rfl (em rfl eh)) ?_
   refine AJ (Ar (e_t (Ac rfl eh)) AF (Ar (e_t eh) AF AM)) ?_
   refine AL8 v10 p0.Src rfl ?_
   refine Ai (Ad rfl eh) ?_
   obtain ⟨v12, hc_v12, hr⟩ := bind_some hr
   refine AJ (Ar (e_t eh) AF AM) ?_
   refine La n (RH v10 p0.Src) hc_v12 ?_
   refine An (e_t (Ad rfl (em rfl eh))) (e_t eh) (Aa ?_)
   exact ⟨v12, hr, (Ak rfl (Ad rfl (em rfl h1))), (Ak rfl (Ad rfl (em rfl h3))), (Ak rfl (Ad rfl (em rfl h4))), (Ak rfl (Ad rfl (em rfl h5))), (Ak rfl (Ad rfl (em rfl h6))), (Ak rfl (Ad rfl (em rfl h7))), (Ak rfl (Ad rfl (em rfl h8))), (Ak rfl (Ad rfl (em rfl h9))), (Ak rfl (Ad rfl (em rfl h10))), eh, rfl⟩
 rintro f st' ⟨v13, hr, h1, h3, h4, h5, h6, h7, h8, h9, h10, h50, rfl⟩
 rw [I8] at hr
 refine A1 (fun f st' => ∃ (v14 : Bool), HC p0 n v4 v5 v6 v7 v8 v9 v10 v14 = some r ∧ f 1 = (.ptr (st.length + 0) 0) ∧ f 4 = (.d (.bool v4)) ∧ f 5 = (.d (.bool v5)) ∧ f 6 = (.d (.bool v6)) ∧ f 7 = (.d (.bool v7)) ∧ f 8 = (.d (.int .i64 v8)) ∧ f 9 = (.d (.int .i64 v9)) ∧ f 10 = (.d (.bool v10)) ∧ f 58 = (.d (.bool v14)) ∧ st' = st ++ [(.box [(.d (.int .i64 p0.Op)), (.d (.str p0.Name)), (.d (.str p0.Src)), (.d (.int .i64 p0.N)), (.d (.sl (List.map rS p0.Cols))), (.d (.sl (List.map TE.row p0.Exprs))), (.d (.sl (List.map TS.row p0.Body))), (.d (.sl (List.map TS.row p0.Else)))])]) ?_ ?_
 · unfold Rr
   refine Ab (e_t h50) ?_
   refine Au eh hr (fun hr => ?_) (fun hr => ?_)
   rotate_left
   · refine Ag eh (Ag (em rfl eh) ?_)
     refine A4 eh ?_
     refine A4 (em rfl eh) ?_
     refine A4 (Ac rfl eh) ?_
     refine Ag (Ad rfl (em rfl eh)) (Ao (e_t (Ad rfl (Ac rfl eh))) e_c (Aa ?_))
     exact ⟨false, hr, (Ak rfl (em rfl h1)), (Ak rfl (em rfl h4)), (Ak rfl (em rfl h5)), (Ak rfl (em rfl h6)), (Ak rfl (em rfl h7)), (Ak rfl (em rfl h8)), (Ak rfl (em rfl h9)), (Ak rfl (em rfl h10)), eh, rfl⟩
   refine Ai eh (Ab (e_t (Ac rfl h3)) (Ai (em rfl eh) (Ab (e_t eh) ?_)))
   refine Au eh hr (fun hr => ?_) (fun hr => ?_)
   · refine Ag eh (Ag (em rfl eh) (Ag (Ac rfl eh) (Ai (Ad rfl (Ac rfl eh)) (An (e_t (Ac rfl (em rfl eh))) e_c (An (e_t (Ad rfl (Ac rfl (em rfl eh)))) (e_t eh) ?_)))))
     refine Aa ?_
     exact ⟨true, hr, (Ak rfl (Ac rfl h1)), (Ak rfl (Ac rfl h4)), (Ak rfl (Ac rfl h5)), (Ak rfl (Ac rfl h6)), (Ak rfl (Ac rfl h7)), (Ak rfl (Ac rfl h8)), (Ak rfl (Ac rfl h9)), (Ak rfl (Ac rfl h10)), eh, rfl⟩
   refine Ai eh ?_
   refine AB (e_t (Ad rfl (em rfl h1))) (by exact rfl) ?_
   refine Ai (em rfl eh) ?_
   refine Ap (e_t eh) ((Am rfl 0).trans rfl) (by exact rfl) ?_
   refine Ai (Ac rfl eh) ?_
   refine As (e_t eh) e_c (Dg ?_)
   refine Ai (Ad rfl (Ac rfl eh)) (Ao (e_t (Ac rfl (em rfl eh))) (e_t eh) (An (e_t (Ad rfl (Ac rfl (em rfl eh)))) (e_t eh) (Aa ?_)))
   exact ⟨(decide (p0.Name = (⟨#[]⟩ : ByteArray))), hr, (Ak rfl (Ac rfl h1)), (Ak rfl (Ac rfl h4)), (Ak rfl (Ac rfl h5)), (Ak rfl (Ac rfl h6)), (Ak rfl (Ac rfl h7)), (Ak rfl (Ac rfl h8)), (Ak rfl (Ac rfl h9)), (Ak rfl (Ac rfl h10)), eh, rfl⟩
 rintro f st' ⟨v14, hr, h1, h4, h5, h6, h7, h8, h9, h10, h58, rfl⟩
 rw [HC] at hr
 refine A1 (fun f st' => ∃ (v15 : Bool), HM p0 n v4 v5 v6 v7 v8 v9 v15 = some r ∧ f 1 = (.ptr (st.length + 0) 0) ∧ f 4 = (.d (.bool v4)) ∧ f 5 = (.d (.bool v5)) ∧ f 6 = (.d (.bool v6)) ∧ f 7 = (.d (.bool v7)) ∧ f 8 = (.d (.int .i64 v8)) ∧ f 9 = (.d (.int .i64 v9)) ∧ f 66 = (.d (.bool v15)) ∧ st' = st ++ [(.box [(.d (.int .i64 p0.Op)), (.d (.str p0.Name)), (.d (.str p0.Src)), (.d (.int .i64 p0.N)), (.d (.sl (List.map rS p0.Cols))), (.d (.sl (List.map TE.row p0.Exprs))), (.d (.sl (List.map TS.row p0.Body))), (.d (.sl (List.map TS.row p0.Else)))])]) ?_ ?_
 · unfold QH
   refine Ab (e_t h58) ?_
   refine Au eh hr (fun hr => ?_) (fun hr => ?_)
   rotate_left
   · refine Ag eh (Ag (em rfl eh) ?_)
     refine A4 eh ?_
     refine A4 (em rfl eh) ?_
     refine A4 (Ac rfl eh) ?_
     refine Ag (Ad rfl (em rfl eh)) (Ao (e_t (Ad rfl (Ac rfl eh))) e_c (Aa ?_))
     exact ⟨false, hr, (Ak rfl (em rfl h1)), (Ak rfl (em rfl h4)), (Ak rfl (em rfl h5)), (Ak rfl (em rfl h6)), (Ak rfl (em rfl h7)), (Ak rfl (em rfl h8)), (Ak rfl (em rfl h9)), eh, rfl⟩
   refine Ai eh (Ab (e_t (Ac rfl h10)) (Ai (em rfl eh) (Ab (e_t eh) ?_)))
   refine Au eh hr (fun hr => ?_) (fun hr => ?_)
   · refine Ag eh (Ag (em rfl eh) (Ag (Ac rfl eh) (Ai (Ad rfl (Ac rfl eh)) (An (e_t (Ac rfl (em rfl eh))) e_c (An (e_t (Ad rfl (Ac rfl (em rfl eh)))) (e_t eh) ?_)))))
     refine Aa ?_
     exact ⟨true, hr, (Ak rfl (Ac rfl h1)), (Ak rfl (Ac rfl h4)), (Ak rfl (Ac rfl h5)), (Ak rfl (Ac rfl h6)), (Ak rfl (Ac rfl h7)), (Ak rfl (Ac rfl h8)), (Ak rfl (Ac rfl h9)), eh, rfl⟩
   refine Ai eh ?_
   refine AB (e_t (Ad rfl (em rfl h1))) (by exact rfl) ?_
   refine Ai (em rfl eh) ?_
   refine Ap (e_t eh) ((Am rfl 0).trans rfl) (by exact rfl) ?_
   refine Ai (Ac rfl eh) ?_
   refine As (e_t eh) e_c (Dg ?_)
   refine Ai (Ad rfl (Ac rfl eh)) (Ao (e_t (Ac rfl (em rfl eh))) (e_t eh) (An (e_t (Ad rfl (Ac rfl (em rfl eh)))) (e_t eh) (Aa ?_)))
   exact ⟨(decide (p0.Src = (⟨#[]⟩ : ByteArray))), hr, (Ak rfl (Ac rfl h1)), (Ak rfl (Ac rfl h4)), (Ak rfl (Ac rfl h5)), (Ak rfl (Ac rfl h6)), (Ak rfl (Ac rfl h7)), (Ak rfl (Ac rfl h8)), (Ak rfl (Ac rfl h9)), eh, rfl⟩
 rintro f st' ⟨v15, hr, h1, h4, h5, h6, h7, h8, h9, h66, rfl⟩
 rw [HM] at hr
 refine A1 (fun f st' => ∃ (v18 : Bool), Dh p0 v5 v6 v7 v8 v9 v18 = some r ∧ f 1 = (.ptr (st.length + 0) 0) ∧ f 5 = (.d (.bool v5)) ∧ f 6 = (.d (.bool v6)) ∧ f 7 = (.d (.bool v7)) ∧ f 8 = (.d (.int .i64 v8)) ∧ f 9 = (.d (.int .i64 v9)) ∧ f 95 = (.d (.bool v18)) ∧ st' = st ++ [(.box [(.d (.int .i64 p0.Op)), (.d (.str p0.Name)), (.d (.str p0.Src)), (.d (.int .i64 p0.N)), (.d (.sl (List.map rS p0.Cols))), (.d (.sl (List.map TE.row p0.Exprs))), (.d (.sl (List.map TS.row p0.Body))), (.d (.sl (List.map TS.row p0.Else)))])]) ?_ ?_
 rotate_left
 · rintro f st' ⟨v18, hr, h1, h5, h6, h7, h8, h9, h95, rfl⟩
   rw [Dh] at hr
   refine A1 (fun f st' => ∃ (v19 : Bool), Fe p0 v6 v7 v8 v9 v19 = some r ∧ f 1 = (.ptr (st.length + 0) 0) ∧ f 6 = (.d (.bool v6)) ∧ f 7 = (.d (.bool v7)) ∧ f 8 = (.d (.int .i64 v8)) ∧ f 9 = (.d (.int .i64 v9)) ∧ f 112 = (.d (.bool v19)) ∧ st' = st ++ [(.box [(.d (.int .i64 p0.Op)), (.d (.str p0.Name)), (.d (.str p0.Src)), (.d (.int .i64 p0.N)), (.d (.sl (List.map rS p0.Cols))), (.d (.sl (List.map TE.row p0.Exprs))), (.d (.sl (List.map TS.row p0.Body))), (.d (.sl (List.map TS.row p0.Else)))])]) ?_ ?_
   · unfold Rc
     refine Ab (e_t h95) ?_
     refine Au eh hr (fun hr => ?_) (fun hr => ?_)
     rotate_left
     · refine Ag eh (Ag (em rfl eh) ?_)
       refine A4 eh ?_
       refine A4 (em rfl eh) ?_
       refine A4 (Ac rfl eh) ?_
       refine Ag (Ad rfl (em rfl eh)) (Ag (Ad rfl (Ac rfl eh)) ?_)
       refine A4 eh ?_
       refine A4 (em rfl eh) ?_
       refine A4 (Ac rfl eh) ?_
       refine A4 eh ?_
       refine A4 (em rfl eh) ?_
       refine A4 (Ac rfl eh) ?_
       refine A4 (Ad rfl (Ac rfl eh)) ?_
       refine Ag (Ak rfl (Ad rfl (Ac rfl eh))) (Ao (e_t (Ak rfl (Ad rfl (Ac rfl (em rfl eh))))) e_c (Aa ?_))
       exact ⟨false, hr, (Aj rfl (Ac rfl h1)), (Aj rfl (Ac rfl h6)), (Aj rfl (Ac rfl h7)), (Aj rfl (Ac rfl h8)), (Aj rfl (Ac rfl h9)), eh, rfl⟩
     refine Ai eh (Ab (e_t (Ac rfl h5)) (Ai (em rfl eh) (Ab (e_t eh) ?_)))
     refine Au eh hr (fun hr => ?_) (fun hr => ?_)
     rotate_left
     · refine Ag eh (Ag (em rfl eh) (Ag (Ac rfl eh) (Ai (Ad rfl (Ac rfl eh)) (Ao (e_t (Ac rfl (em rfl eh))) e_c (Ai (Ad rfl (Ac rfl (em rfl eh))) ?_)))))
       refine Ab (e_t eh) (Ai eh (Ab (e_t (Ak rfl (Ac rfl h5))) (Ai (em rfl eh) (C2 (e_t eh) (Ai (Ac rfl eh) ?_)))))
       refine Ab (e_t eh) ?_
       refine Au eh hr (fun hr => ?_) (fun hr => ?_)
       rotate_left
       · refine Ag eh (Ag (em rfl eh) (Ag (Ac rfl eh) (Ai (Ad rfl (Ac rfl (em rfl eh))) (Ao (e_t (Ac rfl (em rfl eh))) e_c (Ai (Ak rfl (Ad rfl (Ad rfl eh))) ?_)))))
         refine Ao (e_t (Ad rfl (Ad rfl eh))) (e_t eh) (An (e_t (Aj rfl (em rfl eh))) (e_t eh) (Aa ?_))
         exact ⟨false, hr, (Aj rfl (Ad rfl h1)), (Aj rfl (Ad rfl h6)), (Aj rfl (Ad rfl h7)), (Aj rfl (Ad rfl h8)), (Aj rfl (Ad rfl h9)), eh, rfl⟩
       refine Ai eh ?_
       refine AB (e_t (Ak rfl (Ad rfl (Ac rfl h1)))) (by exact rfl) ?_
       refine Ai (em rfl eh) ?_
       refine Ap (e_t eh) ((Am rfl 0).trans rfl) (by exact rfl) ?_
       refine Ai (Ac rfl eh) ?_
       refine As (e_t eh) e_c (BK ?_)
       refine Ai (Ad rfl (Ac rfl (em rfl eh))) (An (e_t (Ac rfl (em rfl eh))) (e_t eh) (Ai (Ak rfl (Ad rfl (Ad rfl eh))) (Ao (e_t (Ad rfl (Ad rfl eh))) (e_t eh) (An (e_t (Aj rfl (em rfl eh))) (e_t eh) (Aa ?_)))))
       exact ⟨(decide (p0.N = (0 : Int))), hr, (Aj rfl (Ad rfl h1)), (Aj rfl (Ad rfl h6)), (Aj rfl (Ad rfl h7)), (Aj rfl (Ad rfl h8)), (Aj rfl (Ad rfl h9)), eh, rfl⟩
     refine Ai eh ?_
     refine AB (e_t (Ad rfl (em rfl h1))) (by exact rfl) ?_
     refine Ai (em rfl eh) ?_
     refine Ap (e_t eh) ((Am rfl 0).trans rfl) (by exact rfl) ?_
     refine Ai (Ac rfl eh) ?_
     refine AJ (Ar (e_t eh) AF (Ar e_c AF (Ar e_c AF AM))) ?_
     refine OV p0.N (0 : Int) (1000 : Int) rfl ?_
     refine Ai (Ad rfl (Ac rfl eh)) (An (e_t (Ac rfl (em rfl eh))) (e_t eh) (Ai (Ad rfl (Ac rfl (em rfl eh))) (Ab (e_t eh) ?_)))
     refine Au eh hr (fun hr => ?_) (fun hr => ?_)
     · refine Ag eh (Ag (em rfl eh) (Ag (Ac rfl eh) ?_))
       refine A4 eh ?_
       refine A4 (em rfl eh) ?_
       refine A4 (Ac rfl eh) ?_
       refine Ag (Ad rfl (Ac rfl eh)) (Ai (Ak rfl (Ad rfl (Ad rfl eh))) (An (e_t (Ad rfl (Ac rfl (em rfl eh)))) e_c (An (e_t (Aj rfl (em rfl eh))) (e_t eh) (Aa ?_))))
       exact ⟨true, hr, (Aj rfl (Ad rfl h1)), (Aj rfl (Ad rfl h6)), (Aj rfl (Ad rfl h7)), (Aj rfl (Ad rfl h8)), (Aj rfl (Ad rfl h9)), eh, rfl⟩
     refine Ai eh (Ab (e_t (Ak rfl (Ac rfl (em rfl h5)))) (Ai (em rfl eh) (C2 (e_t eh) (Ai (Ac rfl eh) (Ab (e_t eh) ?_)))))
     refine Au eh hr (fun hr => ?_) (fun hr => ?_)
     rotate_left
     · refine Ag eh (Ag (em rfl eh) (Ag (Ac rfl eh) (Ai (Ad rfl (Ac rfl (em rfl eh))) (Ao (e_t (Ac rfl (em rfl eh))) e_c (Ai (Aj rfl (em rfl eh)) ?_)))))
       refine Ao (e_t (Ad rfl (Ad rfl eh))) (e_t eh) (An (e_t (Aj rfl (Ac rfl eh))) (e_t eh) (Aa ?_))
       exact ⟨false, hr, (Aj rfl (Ad rfl (em rfl h1))), (Aj rfl (Ad rfl (em rfl h6))), (Aj rfl (Ad rfl (em rfl h7))), (Aj rfl (Ad rfl (em rfl h8))), (Aj rfl (Ad rfl (em rfl h9))), eh, rfl⟩
     refine Ai eh ?_
     refine AB (e_t (Ak rfl (Ad rfl (Ac rfl (em rfl h1))))) (by exact rfl) ?_
     refine Ai (em rfl eh) ?_
     refine Ap (e_t eh) ((Am rfl 0).trans rfl) (by exact rfl) ?_
     refine Ai (Ac rfl eh) ?_
     refine As (e_t eh) e_c (BK ?_)
     refine Ai (Ad rfl (Ac rfl (em rfl eh))) (An (e_t (Ac rfl (em rfl eh))) (e_t eh) (Ai (Aj rfl (em rfl eh)) (Ao (e_t (Ad rfl (Ad rfl eh))) (e_t eh) (An (e_t (Aj rfl (Ac rfl eh))) (e_t eh) (Aa ?_)))))
     exact ⟨(decide (p0.N = (0 : Int))), hr, (Aj rfl (Ad rfl (em rfl h1))), (Aj rfl (Ad rfl (em rfl h6))), (Aj rfl (Ad rfl (em rfl h7))), (Aj rfl (Ad rfl (em rfl h8))), (Aj rfl (Ad rfl (em rfl h9))), eh, rfl⟩
   rintro f st' ⟨v19, hr, h1, h6, h7, h8, h9, h112, rfl⟩
   rw [Fe] at hr
   refine A1 (fun f st' => ∃ (v20 : Bool), I6 p0 v6 v7 v20 = some r ∧ f 1 = (.ptr (st.length + 0) 0) ∧ f 6 = (.d (.bool v6)) ∧ f 7 = (.d (.bool v7)) ∧ f 120 = (.d (.bool v20)) ∧ st' = st ++ [(.box [(.d (.int .i64 p0.Op)), (.d (.str p0.Name)), (.d (.str p0.Src)), (.d (.int .i64 p0.N)), (.d (.sl (List.map rS p0.Cols))), (.d (.sl (List.map TE.row p0.Exprs))), (.d (.sl (List.map TS.row p0.Body))), (.d (.sl (List.map TS.row p0.Else)))])]) ?_ ?_
   · unfold Q9
     refine Ab (e_t h112) ?_
     refine Au eh hr (fun hr => ?_) (fun hr => ?_)
     rotate_left
     · refine Ag eh (Ag (em rfl eh) (Ag (Ac rfl eh) (Ag (Ac rfl (em rfl eh)) (Ag (Ad rfl eh) (Ag (Ad rfl (em rfl eh)) ?_)))))
       refine Ao (e_t (Ad rfl (Ac rfl eh))) e_c (Aa ?_)
       exact ⟨false, hr, (Ak rfl (em rfl h1)), (Ak rfl (em rfl h6)), (Ak rfl (em rfl h7)), eh, rfl⟩
     refine Ai eh ?_
     refine AB (e_t (Ac rfl h1)) (by exact rfl) ?_
     refine Ai (em rfl eh) ?_
     refine Ap (e_t eh) ((Am rfl 0).trans rfl) (by exact rfl) ?_
     refine Ai (Ac rfl eh) ?_
     refine Bh (row := TE.row) (AP (e_t eh) Bt) ?_
     refine Ai (Ac rfl (em rfl eh)) (Ab (e_t (Ad rfl (em rfl h8))) (Ai (Ad rfl eh) (Ab (e_t (Ad rfl (Ac rfl h9))) (Ai (Ad rfl (em rfl eh)) ?_))))
     refine AJ (Ar (e_t (Ac rfl eh)) AF (Ar (e_t (em rfl eh)) AF (Ar (e_t eh) AF AM))) ?_
     refine OV (p0.Exprs.length : Int) v8 v9 rfl ?_
     refine An (e_t (Ad rfl (Ac rfl eh))) (e_t eh) (Aa ?_)
     exact ⟨(C9 (p0.Exprs.length : Int) v8 v9), hr, (Ak rfl (em rfl h1)), (Ak rfl (em rfl h6)), (Ak rfl (em rfl h7)), eh, rfl⟩
   rintro f st' ⟨v20, hr, h1, h6, h7, h120, rfl⟩
   rw [I6] at hr
   refine A1 (fun f st' => ∃ (v21 : Bool), HE p0 v7 v21 = some r ∧ f 1 = (.ptr (st.length + 0) 0) ∧ f 7 = (.d (.bool v7)) ∧ f 129 = (.d (.bool v21)) ∧ st' = st ++ [(.box [(.d (.int .i64 p0.Op)), (.d (.str p0.Name)), (.d (.str p0.Src)), (.d (.int .i64 p0.N)), (.d (.sl (List.map rS p0.Cols))), (.d (.sl (List.map TE.row p0.Exprs))), (.d (.sl (List.map TS.row p0.Body))), (.d (.sl (List.map TS.row p0.Else)))])]) ?_ ?_
   · unfold Rq
     refine Ab (e_t h120) ?_
     refine Au eh hr (fun hr => ?_) (fun hr => ?_)
     rotate_left
     · refine Ag eh (Ag (em rfl eh) ?_)
       refine A4 eh ?_
       refine A4 (em rfl eh) ?_
       refine A4 (Ac rfl eh) ?_
       refine A4 (Ac rfl (em rfl eh)) ?_
       refine Ag (Ad rfl (Ac rfl eh)) (Ao (e_t (Ad rfl (Ac rfl (em rfl eh)))) e_c (Aa ?_))
       exact ⟨false, hr, (Ak rfl (Ac rfl h1)), (Ak rfl (Ac rfl h7)), eh, rfl⟩
     refine Ai eh (Ab (e_t (Ac rfl h6)) (Ai (em rfl eh) (Ab (e_t eh) ?_)))
     refine Au eh hr (fun hr => ?_) (fun hr => ?_)
     · refine Ag eh (Ag (em rfl eh) (Ag (Ac rfl eh) (Ag (Ac rfl (em rfl eh)) (Ai (Ad rfl (Ac rfl (em rfl eh))) (An (e_t (Ad rfl eh)) e_c ?_)))))
       refine An (e_t (Ad rfl (Ad rfl eh))) (e_t eh) (Aa ?_)
       exact ⟨true, hr, (Ak rfl (Ac rfl (em rfl h1))), (Ak rfl (Ac rfl (em rfl h7))), eh, rfl⟩
     refine Ai eh ?_
     refine AB (e_t (Ad rfl (em rfl h1))) (by exact rfl) ?_
     refine Ai (em rfl eh) ?_
     refine Ap (e_t eh) ((Am rfl 0).trans rfl) (by exact rfl) ?_
     refine Ai (Ac rfl eh) ?_
     refine Bh (row := TS.row) (AP (e_t eh) Bt) ?_
     refine Ai (Ac rfl (em rfl eh)) ?_
     refine As (e_t eh) e_c (BK ?_)
     refine Ai (Ad rfl (Ac rfl (em rfl eh))) (Ao (e_t (Ad rfl eh)) (e_t eh) (An (e_t (Ad rfl (Ad rfl eh))) (e_t eh) (Aa ?_)))
     exact ⟨(decide ((p0.Body.length : Int) = (0 : Int))), hr, (Ak rfl (Ac rfl (em rfl h1))), (Ak rfl (Ac rfl (em rfl h7))), eh, rfl⟩
   rintro f st' ⟨v21, hr, h1, h7, h129, rfl⟩
   rw [HE] at hr
   refine Bn ?_
   unfold QJ
   refine Ab (e_t h129) ?_
   refine Au eh hr (fun hr => ?_) (fun hr => ?_)
   rotate_left
   · refine Ag eh (Ag (em rfl eh) ?_)
     refine A4 eh ?_
     refine A4 (em rfl eh) ?_
     refine A4 (Ac rfl eh) ?_
     refine A4 (Ac rfl (em rfl eh)) ?_
     refine Ag (Ad rfl (Ac rfl eh)) (Ao (e_t (Ad rfl (Ac rfl (em rfl eh)))) e_c (Aa ?_))
     unfold Jy
     refine Ab (e_t eh) (Aa (Ae (AI ?_)))
     cases hr
     exact A7 (AG eh AH) (AN AF v_d) (Ay hwf) h
   refine Ai eh (Ab (e_t (Ac rfl h7)) (Ai (em rfl eh) (Ab (e_t eh) ?_)))
   refine Au eh hr (fun hr => ?_) (fun hr => ?_)
   · refine Ag eh (Ag (em rfl eh) (Ag (Ac rfl eh) (Ag (Ac rfl (em rfl eh)) (Ai (Ad rfl (Ac rfl (em rfl eh))) (An (e_t (Ad rfl eh)) e_c ?_)))))
     refine An (e_t (Ad rfl (Ad rfl eh))) (e_t eh) (Aa ?_)
     unfold Jy
     refine Ab (e_t eh) (Aa (Ae (AI ?_)))
     cases hr
     exact A7 (AG eh AH) (AN AF v_d) (Ay hwf) h
   refine Ai eh ?_
   refine AB (e_t (Ad rfl (em rfl h1))) (by exact rfl) ?_
   refine Ai (em rfl eh) ?_
   refine Ap (e_t eh) ((Am rfl 0).trans rfl) (by exact rfl) ?_
   refine Ai (Ac rfl eh) ?_
   refine Bh (row := TS.row) (AP (e_t eh) Bt) ?_
   refine Ai (Ac rfl (em rfl eh)) ?_
   refine As (e_t eh) e_c (BK ?_)
   refine Ai (Ad rfl (Ac rfl (em rfl eh))) (Ao (e_t (Ad rfl eh)) (e_t eh) (An (e_t (Ad rfl (Ad rfl eh))) (e_t eh) (Aa ?_)))
   unfold Jy
   refine Ab (e_t eh) (Aa (Ae (AI ?_)))
   cases hr
   exact A7 (AG eh AH) (AN AF v_d) (Ay hwf) h
 unfold Ri
 refine Ab (e_t h66) ?_
 refine Au eh hr (fun hr => ?_) (fun hr => ?_)
 rotate_left
 · refine Ag eh (Ag (em rfl eh) ?_)
   refine A4 eh ?_
   refine A4 (em rfl eh) ?_
   refine A4 (Ac rfl eh) ?_
   refine A4 (Ac rfl (em rfl eh)) ?_
   refine Ag (Ad rfl (Ac rfl eh)) (Ag (Ad rfl (Ac rfl (em rfl eh))) ?_)
   refine A4 eh ?_
   refine A4 (em rfl eh) ?_
   refine A4 (Ac rfl eh) ?_
   refine Ag (Ak rfl (Ac rfl (em rfl eh))) (Ag (Ak rfl (Ad rfl eh)) ?_)
   refine A4 eh ?_
   refine A4 (em rfl eh) ?_
   refine A4 (Ac rfl eh) ?_
   refine Ag (Ak rfl (Ad rfl (Ad rfl eh))) (Ag (Aj rfl (em rfl eh)) ?_)
   refine A4 eh ?_
   refine A4 (em rfl eh) ?_
   refine A4 (Ac rfl eh) ?_
   refine A4 eh ?_
   refine A4 (em rfl eh) ?_
   refine A4 (Ac rfl eh) ?_
   refine A4 (Ac rfl (em rfl eh)) ?_
   refine A4 (Ad rfl (Ac rfl (em rfl eh))) ?_
   refine Ag (Aj rfl (Ak rfl (Ac rfl eh))) (Ao (e_t (Aj rfl (Ak rfl (Ac rfl (em rfl eh))))) e_c (Aa ?_))
   exact ⟨false, hr, (Aj rfl (Ak rfl (Ad rfl (Ac rfl h1)))), (Aj rfl (Ak rfl (Ad rfl (Ac rfl h5)))), (Aj rfl (Ak rfl (Ad rfl (Ac rfl h6)))), (Aj rfl (Ak rfl (Ad rfl (Ac rfl h7)))), (Aj rfl (Ak rfl (Ad rfl (Ac rfl h8)))), (Aj rfl (Ak rfl (Ad rfl (Ac rfl h9)))), eh, rfl⟩
 refine Ai eh (Ab (e_t (Ac rfl h4)) (Ai (em rfl eh) (Ab (e_t eh) ?_)))
 refine Au eh hr (fun hr => ?_) (fun hr => ?_)
 rotate_left
 · refine Ag eh (Ag (em rfl eh) (Ag (Ac rfl eh) (Ag (Ac rfl (em rfl eh)) (Ai (Ad rfl (Ac rfl (em rfl eh))) (Ao (e_t (Ad rfl eh)) e_c ?_)))))
   refine Ai (Ad rfl (Ad rfl eh)) (Ab (e_t eh) (Ag eh (Ag (em rfl eh) (Ag (Ac rfl eh) (Ai (Ak rfl (Ad rfl eh)) ?_)))))
   refine Ao (e_t (Ac rfl (em rfl eh))) e_c (Ai (Ak rfl (Ad rfl (em rfl eh))) (Ab (e_t eh) (Ag eh (Ag (em rfl eh) (Ag (Ac rfl eh) ?_)))))
   refine Ai (Aj rfl (em rfl eh)) (Ao (e_t (Ac rfl (em rfl eh))) e_c (Ai (Aj rfl (Ac rfl eh)) (Ab (e_t eh) (Ai eh (Ab (e_t (Aj rfl (Ad rfl (em rfl h4)))) ?_)))))
   refine Ai (em rfl eh) (C2 (e_t eh) (Ai (Ac rfl eh) (Ab (e_t eh) ?_)))
   refine Au eh hr (fun hr => ?_) (fun hr => ?_)
   rotate_left
   · refine Ag eh (Ag (em rfl eh) (Ag (Ac rfl eh) (Ag (Ac rfl (em rfl eh)) (Ai (Ad rfl (Ad rfl eh)) (Ao (e_t (Ad rfl eh)) e_c ?_)))))
     refine Ai (Aj rfl (Ak rfl (Ad rfl eh))) (Ao (e_t (Ak rfl (em rfl eh))) (e_t eh) (An (e_t (Aj rfl (Ak rfl (Ad rfl (em rfl eh))))) (e_t eh) (Aa ?_)))
     exact ⟨false, hr, (Aj rfl (Ak rfl (Ad rfl (Ad rfl h1)))), (Aj rfl (Ak rfl (Ad rfl (Ad rfl h5)))), (Aj rfl (Ak rfl (Ad rfl (Ad rfl h6)))), (Aj rfl (Ak rfl (Ad rfl (Ad rfl h7)))), (Aj rfl (Ak rfl (Ad rfl (Ad rfl h8)))), (Aj rfl (Ak rfl (Ad rfl (Ad rfl h9)))), eh, rfl⟩
   refine Ai eh ?_
   refine AB (e_t (Aj rfl (Ak rfl (em rfl h1)))) (by exact rfl) ?_
   refine Ai (em rfl eh) ?_
   refine Ap (e_t eh) ((Am rfl 0).trans rfl) (by exact rfl) ?_
   refine Ai (Ac rfl eh) ?_
   refine Bh (row := rS) (AP (e_t eh) Bt) ?_
   refine Ai (Ac rfl (em rfl eh)) ?_
   refine As (e_t eh) e_c (BK ?_)
   refine Ai (Ad rfl (Ad rfl eh)) (An (e_t (Ad rfl eh)) (e_t eh) (Ai (Aj rfl (Ak rfl (Ad rfl eh))) (Ao (e_t (Ak rfl (em rfl eh))) (e_t eh) (An (e_t (Aj rfl (Ak rfl (Ad rfl (em rfl eh))))) (e_t eh) (Aa ?_)))))
   exact ⟨(decide ((p0.Cols.length : Int) = (0 : Int))), hr, (Aj rfl (Ak rfl (Ad rfl (Ad rfl h1)))), (Aj rfl (Ak rfl (Ad rfl (Ad rfl h5)))), (Aj rfl (Ak rfl (Ad rfl (Ad rfl h6)))), (Aj rfl (Ak rfl (Ad rfl (Ad rfl h7)))), (Aj rfl (Ak rfl (Ad rfl (Ad rfl h8)))), (Aj rfl (Ak rfl (Ad rfl (Ad rfl h9)))), eh, rfl⟩
 refine Ai eh ?_
 refine AB (e_t (Ad rfl (em rfl h1))) (by exact rfl) ?_
 refine Ai (em rfl eh) ?_
 refine Ap (e_t eh) ((Am rfl 0).trans rfl) (by exact rfl) ?_
 refine Ai (Ac rfl eh) ?_
 refine Bh (row := rS) (AP (e_t eh) Bt) ?_
 refine Ai (Ac rfl (em rfl eh)) ?_
 refine AJ (Ar (e_t eh) AF (Ar e_c AF (Ar e_c AF AM))) ?_
 refine OV (p0.Cols.length : Int) (1 : Int) (8 : Int) rfl ?_
 refine Ai (Ad rfl (Ac rfl (em rfl eh))) (An (e_t (Ad rfl eh)) (e_t eh) (Ai (Ad rfl (Ad rfl eh)) (Ab (e_t eh) ?_)))
 refine Au eh hr (fun hr => ?_) (fun hr => ?_)
 rotate_left
 · refine Ag eh (Ag (em rfl eh) (Ag (Ac rfl eh) (Ai (Ak rfl (Ad rfl (em rfl eh))) (Ao (e_t (Ac rfl (em rfl eh))) e_c (Ai (Ak rfl (Ad rfl (Ac rfl eh))) ?_)))))
   refine Ab (e_t eh) (Ag eh (Ag (em rfl eh) (Ag (Ac rfl eh) (Ai (Aj rfl (Ac rfl eh)) (Ao (e_t (Ac rfl (em rfl eh))) e_c ?_)))))
   refine Ai (Aj rfl (Ac rfl (em rfl eh))) (Ab (e_t eh) (Ai eh (Ab (e_t (Aj rfl (Ad rfl (Ac rfl h4)))) (Ai (em rfl eh) (C2 (e_t eh) ?_)))))
   refine Ai (Ac rfl eh) (Ab (e_t eh) ?_)
   refine Au eh hr (fun hr => ?_) (fun hr => ?_)
   rotate_left
   · refine Ag eh (Ag (em rfl eh) (Ag (Ac rfl eh) (Ag (Ac rfl (em rfl eh)) (Ai (Ad rfl (Ad rfl eh)) (Ao (e_t (Ad rfl eh)) e_c ?_)))))
     refine Ai (Aj rfl (Ak rfl (Ad rfl (em rfl eh)))) (Ao (e_t (Ak rfl (em rfl eh))) (e_t eh) (An (e_t (Aj rfl (Ak rfl (Ad rfl (Ac rfl eh))))) (e_t eh) (Aa ?_)))
     exact ⟨false, hr, (Aj rfl (Aj rfl (em rfl h1))), (Aj rfl (Aj rfl (em rfl h5))), (Aj rfl (Aj rfl (em rfl h6))), (Aj rfl (Aj rfl (em rfl h7))), (Aj rfl (Aj rfl (em rfl h8))), (Aj rfl (Aj rfl (em rfl h9))), eh, rfl⟩
   refine Ai eh ?_
   refine AB (e_t (Aj rfl (Ak rfl (Ac rfl h1)))) (by exact rfl) ?_
   refine Ai (em rfl eh) ?_
   refine Ap (e_t eh) ((Am rfl 0).trans rfl) (by exact rfl) ?_
   refine Ai (Ac rfl eh) ?_
   refine Bh (row := rS) (AP (e_t eh) Bt) ?_
   refine Ai (Ac rfl (em rfl eh)) ?_
   refine As (e_t eh) e_c (BK ?_)
   refine Ai (Ad rfl (Ad rfl eh)) (An (e_t (Ad rfl eh)) (e_t eh) (Ai (Aj rfl (Ak rfl (Ad rfl (em rfl eh)))) (Ao (e_t (Ak rfl (em rfl eh))) (e_t eh) (An (e_t (Aj rfl (Ak rfl (Ad rfl (Ac rfl eh))))) (e_t eh) (Aa ?_)))))
   exact ⟨(decide ((p0.Cols.length : Int) = (0 : Int))), hr, (Aj rfl (Aj rfl (em rfl h1))), (Aj rfl (Aj rfl (em rfl h5))), (Aj rfl (Aj rfl (em rfl h6))), (Aj rfl (Aj rfl (em rfl h7))), (Aj rfl (Aj rfl (em rfl h8))), (Aj rfl (Aj rfl (em rfl h9))), eh, rfl⟩
 refine Ai eh ?_
 refine AB (e_t (Ak rfl (Ad rfl h1))) (by exact rfl) ?_
 refine Ai (em rfl eh) ?_
 refine Ap (e_t eh) ((Am rfl 0).trans rfl) (by exact rfl) ?_
 refine Ai (Ac rfl eh) ?_
 obtain ⟨v16, hc_v16, hr⟩ := bind_some hr
 refine AJ (Ar (e_t eh) AF AM) ?_
 refine La n p0.Cols hc_v16 ?_
 refine Ai (Ak rfl (Ad rfl (em rfl eh))) (An (e_t (Ac rfl (em rfl eh))) (e_t eh) (Ai (Ak rfl (Ad rfl (Ac rfl eh))) (Ab (e_t eh) ?_)))
 refine Au eh hr (fun hr => ?_) (fun hr => ?_)
 rotate_left
 · refine Ag eh (Ag (em rfl eh) (Ag (Ac rfl eh) (Ai (Aj rfl (Ac rfl (em rfl eh))) (Ao (e_t (Ac rfl (em rfl eh))) e_c (Ai (Aj rfl (Ad rfl eh)) ?_)))))
   refine Ab (e_t eh) (Ai eh (Ab (e_t (Aj rfl (Ad rfl (Ac rfl (em rfl h4))))) (Ai (em rfl eh) (C2 (e_t eh) (Ai (Ac rfl eh) ?_)))))
   refine Ab (e_t eh) ?_
   refine Au eh hr (fun hr => ?_) (fun hr => ?_)
   rotate_left
   · refine Ag eh (Ag (em rfl eh) (Ag (Ac rfl eh) (Ag (Ac rfl (em rfl eh)) (Ai (Ad rfl (Ad rfl eh)) (Ao (e_t (Ad rfl eh)) e_c ?_)))))
     refine Ai (Aj rfl (Ak rfl (Ad rfl (Ac rfl eh)))) (Ao (e_t (Ak rfl (em rfl eh))) (e_t eh) (An (e_t (Aj rfl (Ak rfl (Ad rfl (Ac rfl (em rfl eh)))))) (e_t eh) (Aa ?_)))
     exact ⟨false, hr, (Aj rfl (Aj rfl (Ac rfl h1))), (Aj rfl (Aj rfl (Ac rfl h5))), (Aj rfl (Aj rfl (Ac rfl h6))), (Aj rfl (Aj rfl (Ac rfl h7))), (Aj rfl (Aj rfl (Ac rfl h8))), (Aj rfl (Aj rfl (Ac rfl h9))), eh, rfl⟩
   refine Ai eh ?_
   refine AB (e_t (Aj rfl (Ak rfl (Ac rfl (em rfl h1))))) (by exact rfl) ?_
   refine Ai (em rfl eh) ?_
   refine Ap (e_t eh) ((Am rfl 0).trans rfl) (by exact rfl) ?_
   refine Ai (Ac rfl eh) ?_
   refine Bh (row := rS) (AP (e_t eh) Bt) ?_
   refine Ai (Ac rfl (em rfl eh)) ?_
   refine As (e_t eh) e_c (BK ?_)
   refine Ai (Ad rfl (Ad rfl eh)) (An (e_t (Ad rfl eh)) (e_t eh) (Ai (Aj rfl (Ak rfl (Ad rfl (Ac rfl eh)))) (Ao (e_t (Ak rfl (em rfl eh))) (e_t eh) (An (e_t (Aj rfl (Ak rfl (Ad rfl (Ac rfl (em rfl eh)))))) (e_t eh) (Aa ?_)))))
   exact ⟨(decide ((p0.Cols.length : Int) = (0 : Int))), hr, (Aj rfl (Aj rfl (Ac rfl h1))), (Aj rfl (Aj rfl (Ac rfl h5))), (Aj rfl (Aj rfl (Ac rfl h6))), (Aj rfl (Aj rfl (Ac rfl h7))), (Aj rfl (Aj rfl (Ac rfl h8))), (Aj rfl (Aj rfl (Ac rfl h9))), eh, rfl⟩
 refine Ai eh ?_
 refine AB (e_t (Aj rfl (Ac rfl h1))) (by exact rfl) ?_
 refine Ai (em rfl eh) ?_
 refine Ap (e_t eh) ((Am rfl 0).trans rfl) (by exact rfl) ?_
 refine Ai (Ac rfl eh) ?_
 obtain ⟨v17, hc_v17, hr⟩ := bind_some hr
 refine AJ (Ar (e_t eh) AF AM) ?_
 refine Aj7 p0.Cols hc_v17 ?_
 refine Ai (Aj rfl (Ac rfl (em rfl eh))) (An (e_t (Ac rfl (em rfl eh))) (e_t eh) (Ai (Aj rfl (Ad rfl eh)) (Ab (e_t eh) ?_)))
 refine Au eh hr (fun hr => ?_) (fun hr => ?_)
 · refine Ag eh (Ag (em rfl eh) (Ag (Ac rfl eh) ?_))
   refine A4 eh ?_
   refine A4 (em rfl eh) ?_
   refine A4 (Ac rfl eh) ?_
   refine A4 (Ac rfl (em rfl eh)) ?_
   refine Ag (Ad rfl (Ac rfl (em rfl eh))) (Ai (Aj rfl (Ak rfl (Ad rfl (Ac rfl eh)))) (An (e_t (Ad rfl (Ad rfl eh))) e_c (An (e_t (Aj rfl (Ak rfl (Ad rfl (Ac rfl (em rfl eh)))))) (e_t eh) (Aa ?_))))
   exact ⟨true, hr, (Aj rfl (Aj rfl (Ac rfl h1))), (Aj rfl (Aj rfl (Ac rfl h5))), (Aj rfl (Aj rfl (Ac rfl h6))), (Aj rfl (Aj rfl (Ac rfl h7))), (Aj rfl (Aj rfl (Ac rfl h8))), (Aj rfl (Aj rfl (Ac rfl h9))), eh, rfl⟩
 refine Ai eh (Ab (e_t (Aj rfl (Ad rfl (Ad rfl h4)))) (Ai (em rfl eh) (C2 (e_t eh) (Ai (Ac rfl eh) (Ab (e_t eh) ?_)))))
 refine Au eh hr (fun hr => ?_) (fun hr => ?_)
 rotate_left
 · refine Ag eh (Ag (em rfl eh) (Ag (Ac rfl eh) (Ag (Ac rfl (em rfl eh)) (Ai (Ad rfl (Ad rfl eh)) (Ao (e_t (Ad rfl eh)) e_c ?_)))))
   refine Ai (Aj rfl (Ak rfl (Ad rfl (Ac rfl (em rfl eh))))) (Ao (e_t (Ak rfl (em rfl eh))) (e_t eh) (An (e_t (Aj rfl (Ak rfl (Ad rfl (Ad rfl eh))))) (e_t eh) (Aa ?_)))
   exact ⟨false, hr, (Aj rfl (Aj rfl (Ac rfl (em rfl h1)))), (Aj rfl (Aj rfl (Ac rfl (em rfl h5)))), (Aj rfl (Aj rfl (Ac rfl (em rfl h6)))), (Aj rfl (Aj rfl (Ac rfl (em rfl h7)))), (Aj rfl (Aj rfl (Ac rfl (em rfl h8)))), (Aj rfl (Aj rfl (Ac rfl (em rfl h9)))), eh, rfl⟩
 refine Ai eh ?_
 refine AB (e_t (Aj rfl (Ak rfl (Ad rfl h1)))) (by exact rfl) ?_
 refine Ai (em rfl eh) ?_
 refine Ap (e_t eh) ((Am rfl 0).trans rfl) (by exact rfl) ?_
 refine Ai (Ac rfl eh) ?_
 refine Bh (row := rS) (AP (e_t eh) Bt) ?_
 refine Ai (Ac rfl (em rfl eh)) ?_
 refine As (e_t eh) e_c (BK ?_)
 refine Ai (Ad rfl (Ad rfl eh)) (An (e_t (Ad rfl eh)) (e_t eh) (Ai (Aj rfl (Ak rfl (Ad rfl (Ac rfl (em rfl eh))))) (Ao (e_t (Ak rfl (em rfl eh))) (e_t eh) (An (e_t (Aj rfl (Ak rfl (Ad rfl (Ad rfl eh))))) (e_t eh) (Aa ?_)))))
 exact ⟨(decide ((p0.Cols.length : Int) = (0 : Int))), hr, (Aj rfl (Aj rfl (Ac rfl (em rfl h1)))), (Aj rfl (Aj rfl (Ac rfl (em rfl h5)))), (Aj rfl (Aj rfl (Ac rfl (em rfl h6)))), (Aj rfl (Aj rfl (Ac rfl (em rfl h7)))), (Aj rfl (Aj rfl (Ac rfl (em rfl h8)))), (Aj rfl (Aj rfl (Ac rfl (em rfl h9)))), eh, rfl⟩
end Go.Ax
