import Derived.Test.YtojkpenjeglipaaIYT
import Derived.Test.YtojkpenjeglipaaICVX
import Derived.Test.YtojkpenjeglipaaICPrim
import Derived.Test.YtojkpenjeglipaaIYD1
import Derived.Test.YtojkpenjeglipaaIYD2
import Derived.Test.YtojkpenjeglipaaIYD3
set_option linter.unusedVariables false
set_option linter.unusedSimpArgs false
namespace Go.Ax
attribute [local irreducible] BL ER FD Bf CF Fz B6 KZ HX upd ev u0 Dt frz A6 EB mmD bnd BV Ft Do CO GU Ht G2 cutV I1 Cv
variable {st : List Content}
def HA (p0 : TS) (v7 : Bool) (v21 : Bool) : Option Bool :=
 (bif v21 then (bif v7 then some true else some (decide ((p0.Else.length : Int) = (0 : Int)))) else some false)
def IJ (p0 : TS) (v6 : Bool) (v7 : Bool) (v20 : Bool) : Option Bool :=
 (bif v20 then (bif v6 then (HA p0 v7 true) else (HA p0 v7 (decide ((p0.Body.length : Int) = (0 : Int))))) else (HA p0 v7 false))
def Fh (p0 : TS) (v6 : Bool) (v7 : Bool) (v8 : Int) (v9 : Int) (v19 : Bool) : Option Bool :=
 (bif v19 then (IJ p0 v6 v7 (C7 (p0.Exprs.length : Int) v8 v9)) else (IJ p0 v6 v7 false))
def De (p0 : TS) (v5 : Bool) (v6 : Bool) (v7 : Bool) (v8 : Int) (v9 : Int) (v18 : Bool) : Option Bool :=
 (bif v18 then (bif v5 then (bif (C7 p0.N (0 : Int) (1000 : Int)) then (Fh p0 v6 v7 v8 v9 true) else (bif (!v5) then (Fh p0 v6 v7 v8 v9 (decide (p0.N = (0 : Int)))) else (Fh p0 v6 v7 v8 v9 false))) else (bif (!v5) then (Fh p0 v6 v7 v8 v9 (decide (p0.N = (0 : Int)))) else (Fh p0 v6 v7 v8 v9 false))) else (Fh p0 v6 v7 v8 v9 false))
def HD (p0 : TS) (n : Nat) (v4 : Bool) (v5 : Bool) (v6 : Bool) (v7 : Bool) (v8 : Int) (v9 : Int) (v15 : Bool) : Option Bool :=
 (bif v15 then (bif v4 then (bif (C7 (p0.Cols.length : Int) (1 : Int) (8 : Int)) then ((Gi n p0.Cols).bind fun v16 => (bif v16 then ((M4 p0.Cols).bind fun v17 => (bif v17 then (De p0 v5 v6 v7 v8 v9 true) else (bif (!v4) then (De p0 v5 v6 v7 v8 v9 (decide ((p0.Cols.length : Int) = (0 : Int)))) else (De p0 v5 v6 v7 v8 v9 false)))) else (bif (!v4) then (De p0 v5 v6 v7 v8 v9 (decide ((p0.Cols.length : Int) = (0 : Int)))) else (De p0 v5 v6 v7 v8 v9 false)))) else (bif (!v4) then (De p0 v5 v6 v7 v8 v9 (decide ((p0.Cols.length : Int) = (0 : Int)))) else (De p0 v5 v6 v7 v8 v9 false))) else (bif (!v4) then (De p0 v5 v6 v7 v8 v9 (decide ((p0.Cols.length : Int) = (0 : Int)))) else (De p0 v5 v6 v7 v8 v9 false))) else (De p0 v5 v6 v7 v8 v9 false))
def Hu (p0 : TS) (n : Nat) (v4 : Bool) (v5 : Bool) (v6 : Bool) (v7 : Bool) (v8 : Int) (v9 : Int) (v10 : Bool) (v14 : Bool) : Option Bool :=
 (bif v14 then (bif v10 then (HD p0 n v4 v5 v6 v7 v8 v9 true) else (HD p0 n v4 v5 v6 v7 v8 v9 (decide (p0.Src = (⟨#[]⟩ : ByteArray))))) else (HD p0 n v4 v5 v6 v7 v8 v9 false))
def IQ (p0 : TS) (n : Nat) (v3 : Bool) (v4 : Bool) (v5 : Bool) (v6 : Bool) (v7 : Bool) (v8 : Int) (v9 : Int) (v10 : Bool) (v13 : Bool) : Option Bool :=
 (bif v13 then (bif v3 then (Hu p0 n v4 v5 v6 v7 v8 v9 v10 true) else (Hu p0 n v4 v5 v6 v7 v8 v9 v10 (decide (p0.Name = (⟨#[]⟩ : ByteArray))))) else (Hu p0 n v4 v5 v6 v7 v8 v9 v10 false))
def Dg (p0 : TS) (n : Nat) (v3 : Bool) (v4 : Bool) (v5 : Bool) (v6 : Bool) (v7 : Bool) (v8 : Int) (v9 : Int) (v10 : Bool) : Option Bool :=
 ((Gi n (Qz v3 p0.Name)).bind fun v11 => (bif v11 then ((Gi n (Qz v10 p0.Src)).bind fun v12 => (IQ p0 n v3 v4 v5 v6 v7 v8 v9 v10 v12)) else (IQ p0 n v3 v4 v5 v6 v7 v8 v9 v10 false)))
def Dq (p0 : TS) (n : Nat) (v2 : Bool) : Option Bool :=
 (bif v2 then (Dg p0 n false false false false false (1 : Int) (8 : Int) true) else (bif (decide (p0.Op = (4 : Int))) then (Dg p0 n true true false false false (IntKind.wrap .i64 ((p0.Cols.length : Int) + (1 : Int))) (IntKind.wrap .i64 ((p0.Cols.length : Int) + (1 : Int))) true) else (bif (decide (p0.Op = (5 : Int))) then (Dg p0 n true false false false false (1 : Int) (1 : Int) true) else (bif (decide (p0.Op = (6 : Int))) then (Dg p0 n true false true true false (1 : Int) (1 : Int) true) else (bif (decide (p0.Op = (7 : Int))) then (Dg p0 n false false false true true (1 : Int) (1 : Int) false) else (bif (decide (p0.Op = (9 : Int))) then (Dg p0 n false false false false false (1 : Int) (1 : Int) false) else (bif (decide (p0.Op = (10 : Int))) then (Dg p0 n false false false false false (1 : Int) (8 : Int) false) else some false)))))))
def C0 (p0 : TS) (n : Nat) (v1 : Bool) : Option Bool :=
 (bif v1 then (Dg p0 n true false false false false (1 : Int) (1 : Int) false) else (bif (decide (p0.Op = (3 : Int))) then (Dq p0 n (decide (p0.Op = (3 : Int)))) else (Dq p0 n (decide (p0.Op = (8 : Int))))))
def DY (n : Nat) (p0 : TS) : Option Bool :=
 (bif (decide (p0.Op = (1 : Int))) then (C0 p0 n (decide (p0.Op = (1 : Int)))) else (C0 p0 n (decide (p0.Op = (2 : Int)))))
set_option maxRecDepth 100000 in
set_option maxHeartbeats 4000000 in
theorem AG1 (n : Nat) (p0 : TS) {r : Bool} (hr : DY n p0 = some r) {K : PV → List Content → Prop} (h : K (.d (.bool r)) st) : Aw PR YC [(.agg [(.d (.int .i64 p0.Op)), (.d (.str p0.Name)), (.d (.str p0.Src)), (.d (.int .i64 p0.N)), (.d (.sl (List.map rS p0.Cols))), (.d (.sl (List.map TE.row p0.Exprs))), (.d (.sl (List.map TS.row p0.Body))), (.d (.sl (List.map TS.row p0.Else)))])] st K := by
 refine Aw.of AH1 (Nat.le_of_ble_eq_true rfl) fun hwf => ?_
 rw [Cm]
 refine AQ ?_
 unfold Aq9
 rw [DY] at hr
 refine Al (Af ?_)
 unfold V6
 refine Gw (k := 0) rfl rfl (e_t eh) Bg (by exact rfl) ?_
 refine Ab e_c (Aa (Ae (Al (Af ?_))))
 unfold Xa
 refine Ab e_c (Ab e_c (Ab e_c (Ab e_c (Ab e_c (Aa ?_)))))
 refine Ae (Al (Af ?_))
 unfold WM
 refine Ab e_c (Ab e_c (Aa (Ae (Al (Af ?_)))))
 unfold WY
 refine Ab e_c (Aa (Ae ?_))
 refine BD (fun f st' => ∃ (v3 : Bool), ∃ (v4 : Bool), ∃ (v5 : Bool), ∃ (v6 : Bool), ∃ (v7 : Bool), ∃ (v8 : Int), ∃ (v9 : Int), ∃ (v10 : Bool), Dg p0 n v3 v4 v5 v6 v7 v8 v9 v10 = some r ∧ f 1 = (.ptr (st.length + 0) 0) ∧ f 3 = (.d (.bool v3)) ∧ f 4 = (.d (.bool v4)) ∧ f 5 = (.d (.bool v5)) ∧ f 6 = (.d (.bool v6)) ∧ f 7 = (.d (.bool v7)) ∧ f 8 = (.d (.int .i64 v8)) ∧ f 9 = (.d (.int .i64 v9)) ∧ f 10 = (.d (.bool v10)) ∧ st' = st ++ [(.box [(.d (.int .i64 p0.Op)), (.d (.str p0.Name)), (.d (.str p0.Src)), (.d (.int .i64 p0.N)), (.d (.sl (List.map rS p0.Cols))), (.d (.sl (List.map TE.row p0.Exprs))), (.d (.sl (List.map TS.row p0.Body))), (.d (.sl (List.map TS.row p0.Else)))])]) ?_ ?_
 · refine Al (Af ?_)
   unfold WN
   refine AB (e_t (Ak rfl (em rfl eh))) (by exact rfl) ?_
   refine Ap (e_t eh) ((Am rfl 0).trans rfl) (by exact rfl) ?_
   refine Aa (Ae ?_)
   refine AX ?_
   refine BD (fun f st' => ∃ (v1 : Bool), C0 p0 n v1 = some r ∧ f 1 = (.ptr (st.length + 0) 0) ∧ f 3 = (.d (.bool false)) ∧ f 4 = (.d (.bool false)) ∧ f 5 = (.d (.bool false)) ∧ f 6 = (.d (.bool false)) ∧ f 7 = (.d (.bool false)) ∧ f 8 = (.d (.int .i64 (1 : Int))) ∧ f 9 = (.d (.int .i64 (1 : Int))) ∧ f 10 = (.d (.bool true)) ∧ f 12 = (.d (.int .i64 p0.Op)) ∧ f 13 = (.d (.bool v1)) ∧ st' = st ++ [(.box [(.d (.int .i64 p0.Op)), (.d (.str p0.Name)), (.d (.str p0.Src)), (.d (.int .i64 p0.N)), (.d (.sl (List.map rS p0.Cols))), (.d (.sl (List.map TE.row p0.Exprs))), (.d (.sl (List.map TS.row p0.Body))), (.d (.sl (List.map TS.row p0.Else)))])]) ?_ ?_
   · refine Al (Af ?_)
     unfold VR
     refine Ar (e_t eh) e_c (BZ ?_)
     refine Ab (e_t eh) (Aa (Ae ?_))
     refine AC (e_t eh) hr (fun hr => ?_) (fun hr => ?_)
     · refine AN (Ae ?_)
       exact ⟨(decide (p0.Op = (1 : Int))), hr, (Ak rfl (Ad rfl (em rfl eh))), (Ak rfl (Ac rfl (em rfl eh))), (Ak rfl (Ac rfl eh)), (Ak rfl (em rfl eh)), (Ad rfl (Ad rfl eh)), (Ad rfl (Ac rfl (em rfl eh))), (Ad rfl (Ac rfl eh)), (Ad rfl (em rfl eh)), (Ad rfl eh), (Ac rfl eh), eh, rfl⟩
     refine Af ?_
     unfold Wn
     refine Ar (e_t (Ac rfl eh)) e_c (BZ ?_)
     refine Ab (e_t eh) (Aa (Ae ?_))
     exact ⟨(decide (p0.Op = (2 : Int))), hr, (Ak rfl (Ad rfl (Ac rfl (em rfl eh)))), (Ak rfl (Ad rfl (em rfl eh))), (Ak rfl (Ad rfl eh)), (Ak rfl (Ac rfl (em rfl eh))), (Ak rfl (Ac rfl eh)), (Ak rfl (em rfl eh)), (Ad rfl (Ad rfl eh)), (Ad rfl (Ac rfl (em rfl eh))), (Ad rfl (Ac rfl eh)), (Ad rfl eh), eh, rfl⟩
   rintro f st' ⟨v1, hr, h1, h3, h4, h5, h6, h7, h8, h9, h10, h12, h13, rfl⟩
   rw [C0] at hr
   refine AC (e_t h13) hr (fun hr => ?_) (fun hr => ?_)
   · refine Af ?_
     unfold Wd
     refine Ab e_c (Ab e_c (Aa ?_))
     refine BA ?_
     refine Ae ?_
     exact ⟨true, false, false, false, false, (1 : Int), (1 : Int), false, hr, (Ac rfl h1), (em rfl eh), (Ac rfl h4), (Ac rfl h5), (Ac rfl h6), (Ac rfl h7), (Ac rfl h8), (Ac rfl h9), eh, rfl⟩
   refine BD (fun f st' => ∃ (v2 : Bool), Dq p0 n v2 = some r ∧ f 1 = (.ptr (st.length + 0) 0) ∧ f 3 = (.d (.bool false)) ∧ f 4 = (.d (.bool false)) ∧ f 5 = (.d (.bool false)) ∧ f 6 = (.d (.bool false)) ∧ f 7 = (.d (.bool false)) ∧ f 8 = (.d (.int .i64 (1 : Int))) ∧ f 9 = (.d (.int .i64 (1 : Int))) ∧ f 10 = (.d (.bool true)) ∧ f 12 = (.d (.int .i64 p0.Op)) ∧ f 16 = (.d (.bool v2)) ∧ st' = st ++ [(.box [(.d (.int .i64 p0.Op)), (.d (.str p0.Name)), (.d (.str p0.Src)), (.d (.int .i64 p0.N)), (.d (.sl (List.map rS p0.Cols))), (.d (.sl (List.map TE.row p0.Exprs))), (.d (.sl (List.map TS.row p0.Body))), (.d (.sl (List.map TS.row p0.Else)))])]) ?_ ?_
   · refine Al (Af ?_)
     unfold Wu
     refine Ar (e_t h12) e_c (BZ ?_)
     refine Ab (e_t eh) (Aa (Ae ?_))
     refine AC (e_t eh) hr (fun hr => ?_) (fun hr => ?_)
     · refine AN (Ae ?_)
       exact ⟨(decide (p0.Op = (3 : Int))), hr, (Ac rfl h1), (Ac rfl h3), (Ac rfl h4), (Ac rfl h5), (Ac rfl h6), (Ac rfl h7), (Ac rfl h8), (Ac rfl h9), (Ac rfl h10), (Ac rfl h12), eh, rfl⟩
     refine Af ?_
     unfold Wg
     refine Ar (e_t (Ac rfl h12)) e_c (BZ ?_)
     refine Ab (e_t eh) (Aa (Ae ?_))
     exact ⟨(decide (p0.Op = (8 : Int))), hr, (Ad rfl h1), (Ad rfl h3), (Ad rfl h4), (Ad rfl h5), (Ad rfl h6), (Ad rfl h7), (Ad rfl h8), (Ad rfl h9), (Ad rfl h10), (Ad rfl h12), eh, rfl⟩
   rintro f st' ⟨v2, hr, h1, h3, h4, h5, h6, h7, h8, h9, h10, h12, h16, rfl⟩
   rw [Dq] at hr
   refine AC (e_t h16) hr (fun hr => ?_) (fun hr => ?_)
   · refine Af ?_
     unfold SL
     refine Ab e_c (Aa ?_)
     refine BA ?_
     refine Ae ?_
     exact ⟨false, false, false, false, false, (1 : Int), (8 : Int), true, hr, (em rfl h1), (em rfl h3), (em rfl h4), (em rfl h5), (em rfl h6), (em rfl h7), (em rfl h8), eh, (em rfl h10), rfl⟩
   refine Al (Af ?_)
   unfold Sy
   refine Ar (e_t h12) e_c (BZ ?_)
   refine Ab (e_t eh) (Aa (Ae ?_))
   refine AC (e_t eh) hr (fun hr => ?_) (fun hr => ?_)
   · refine Al (Af ?_)
     unfold U6
     refine Ab e_c (Ab e_c (Aa (Ae ?_)))
     refine DI (k := 1) rfl rfl ?_
     unfold UU
     refine AB (e_t (Ad rfl h1)) (by exact rfl) ?_
     refine Ap (e_t eh) ((Am rfl 0).trans rfl) (by exact rfl) ?_
     refine Bh (row := rS) (AL (e_t eh) Bq) ?_
     refine Ar (e_t eh) e_c (BX ?_)
     refine AB (e_t (Ad rfl (Ad rfl h1))) (by exact rfl) ?_
     refine Ap (e_t eh) ((Am rfl 0).trans rfl) (by exact rfl) ?_
     refine Bh (row := rS) (AL (e_t eh) Bq) ?_
     refine Ar (e_t eh) e_c (BX ?_)
     refine Ab (e_t (Ad rfl eh)) (Ab (e_t (em rfl eh)) (Aa ?_))
     refine BA ?_
     refine Ae ?_
     exact ⟨true, true, false, false, false, (IntKind.wrap .i64 ((p0.Cols.length : Int) + (1 : Int))), (IntKind.wrap .i64 ((p0.Cols.length : Int) + (1 : Int))), true, hr, (Ak rfl (Ad rfl (Ac rfl h1))), (Ak rfl (Ac rfl (em rfl eh))), (Ak rfl (Ac rfl eh)), (Ak rfl (Ad rfl (Ac rfl h5))), (Ak rfl (Ad rfl (Ac rfl h6))), (Ak rfl (Ad rfl (Ac rfl h7))), (em rfl eh), eh, (Ak rfl (Ad rfl (Ac rfl h10))), rfl⟩
   refine Al (Af ?_)
   unfold TT
   refine Ar (e_t (Ac rfl h12)) e_c (BZ ?_)
   refine Ab (e_t eh) (Aa (Ae ?_))
   refine AC (e_t eh) hr (fun hr => ?_) (fun hr => ?_)
   · refine Af ?_
     unfold Uu
     refine Ab e_c (Aa ?_)
     refine BA ?_
     refine Ae ?_
     exact ⟨true, false, false, false, false, (1 : Int), (1 : Int), true, hr, (Ad rfl (em rfl h1)), eh, (Ad rfl (em rfl h4)), (Ad rfl (em rfl h5)), (Ad rfl (em rfl h6)), (Ad rfl (em rfl h7)), (Ad rfl (em rfl h8)), (Ad rfl (em rfl h9)), (Ad rfl (em rfl h10)), rfl⟩
   refine Al (Af ?_)
   unfold UC
   refine Ar (e_t (Ad rfl h12)) e_c (BZ ?_)
   refine Ab (e_t eh) (Aa (Ae ?_))
   refine AC (e_t eh) hr (fun hr => ?_) (fun hr => ?_)
   · refine Af ?_
     unfold Vk
     refine Ab e_c (Ab e_c (Ab e_c (Aa ?_)))
     refine BA ?_
     refine Ae ?_
     exact ⟨true, false, true, true, false, (1 : Int), (1 : Int), true, hr, (Ak rfl (em rfl h1)), (Ac rfl eh), (Ak rfl (em rfl h4)), (em rfl eh), eh, (Ak rfl (em rfl h7)), (Ak rfl (em rfl h8)), (Ak rfl (em rfl h9)), (Ak rfl (em rfl h10)), rfl⟩
   refine Al (Af ?_)
   unfold SB
   refine Ar (e_t (Ad rfl (Ac rfl h12))) e_c (BZ ?_)
   refine Ab (e_t eh) (Aa (Ae ?_))
   refine AC (e_t eh) hr (fun hr => ?_) (fun hr => ?_)
   · refine Af ?_
     unfold Th
     refine Ab e_c (Ab e_c (Ab e_c (Aa ?_)))
     refine BA ?_
     refine Ae ?_
     exact ⟨false, false, false, true, true, (1 : Int), (1 : Int), false, hr, (Ak rfl (Ac rfl (em rfl h1))), (Ak rfl (Ac rfl (em rfl h3))), (Ak rfl (Ac rfl (em rfl h4))), (Ak rfl (Ac rfl (em rfl h5))), (Ac rfl eh), (em rfl eh), (Ak rfl (Ac rfl (em rfl h8))), (Ak rfl (Ac rfl (em rfl h9))), eh, rfl⟩
   refine Al (Af ?_)
   unfold Ti
   refine Ar (e_t (Ad rfl (Ad rfl h12))) e_c (BZ ?_)
   refine Ab (e_t eh) (Aa (Ae ?_))
   refine AC (e_t eh) hr (fun hr => ?_) (fun hr => ?_)
   · refine Af ?_
     unfold SX
     refine Ab e_c (Aa ?_)
     refine BA ?_
     refine Ae ?_
     exact ⟨false, false, false, false, false, (1 : Int), (1 : Int), false, hr, (Ak rfl (Ac rfl (em rfl h1))), (Ak rfl (Ac rfl (em rfl h3))), (Ak rfl (Ac rfl (em rfl h4))), (Ak rfl (Ac rfl (em rfl h5))), (Ak rfl (Ac rfl (em rfl h6))), (Ak rfl (Ac rfl (em rfl h7))), (Ak rfl (Ac rfl (em rfl h8))), (Ak rfl (Ac rfl (em rfl h9))), eh, rfl⟩
   refine Al (Af ?_)
   unfold Ug
   refine Ar (e_t (Ak rfl (Ac rfl h12))) e_c (BZ ?_)
   refine Ab (e_t eh) (Aa (Ae ?_))
   refine AC (e_t eh) hr (fun hr => ?_) (fun hr => ?_)
   · refine Af ?_
     unfold U3
     refine Ab e_c (Ab e_c (Aa ?_))
     refine BA ?_
     refine Ae ?_
     exact ⟨false, false, false, false, false, (1 : Int), (8 : Int), false, hr, (Ak rfl (Ad rfl (Ac rfl h1))), (Ak rfl (Ad rfl (Ac rfl h3))), (Ak rfl (Ad rfl (Ac rfl h4))), (Ak rfl (Ad rfl (Ac rfl h5))), (Ak rfl (Ad rfl (Ac rfl h6))), (Ak rfl (Ad rfl (Ac rfl h7))), (Ak rfl (Ad rfl (Ac rfl h8))), (em rfl eh), eh, rfl⟩
   refine Al (Af ?_)
   unfold SF
   refine Ab e_c (Aa (Ae (AI ?_)))
   refine BE ?_
   refine AA ?_
   cases hr
   exact A7 (AF eh AH) (AM AG v_d) (Av hwf) h
 rintro f st' ⟨v3, v4, v5, v6, v7, v8, v9, v10, hr, h1, h3, h4, h5, h6, h7, h8, h9, h10, rfl⟩
 rw [Dg] at hr
 refine Al (Af ?_)
 unfold Uv
 refine Bb (fun f st' => ∃ (v13 : Bool), IQ p0 n v3 v4 v5 v6 v7 v8 v9 v10 v13 = some r ∧ f 1 = (.ptr (st.length + 0) 0) ∧ f 3 = (.d (.bool v3)) ∧ f 4 = (.d (.bool v4)) ∧ f 5 = (.d (.bool v5)) ∧ f 6 = (.d (.bool v6)) ∧ f 7 = (.d (.bool v7)) ∧ f 8 = (.d (.int .i64 v8)) ∧ f 9 = (.d (.int .i64 v9)) ∧ f 10 = (.d (.bool v10)) ∧ f 50 = (.d (.bool v13)) ∧ st' = st ++ [(.box [(.d (.int .i64 p0.Op)), (.d (.str p0.Name)), (.d (.str p0.Src)), (.d (.int .i64 p0.N)), (.d (.sl (List.map rS p0.Cols))), (.d (.sl (List.map TE.row p0.Exprs))), (.d (.sl (List.map TS.row p0.Body))), (.d (.sl (List.map TS.row p0.Else)))])]) ?_ ?_
 · unfold Q3
   refine Ab (e_t h3) ?_
   refine AB (e_t (em rfl h1)) (by exact rfl) ?_
   refine Ap (e_t eh) ((Am rfl 0).trans rfl) (by exact rfl) ?_
   refine AP (Ay (e_t (Ac rfl eh)) AG (Ay (e_t eh) AG AR)) ?_
   refine AF0 v3 p0.Name rfl ?_
   obtain ⟨v11, hc_v11, hr⟩ := bind_some hr
   refine AP (Ay (e_t eh) AG AR) ?_
   refine KX n (Qz v3 p0.Name) hc_v11 ?_
   refine Ab (e_t eh) ?_
   refine Au eh hr (fun hr => ?_) (fun hr => ?_)
   rotate_left
   · refine Ah eh (Ah (em rfl eh) (Ah (Ac rfl eh) (Ah (Ac rfl (em rfl eh)) (Ah (Ad rfl eh) (Ao (e_t (Ad rfl (em rfl eh))) e_c ?_)))))
     refine Aa ?_
     exact ⟨false, hr, (Ak rfl (Ad rfl (em rfl h1))), (Ak rfl (Ad rfl (em rfl h3))), (Ak rfl (Ad rfl (em rfl h4))), (Ak rfl (Ad rfl (em rfl h5))), (Ak rfl (Ad rfl (em rfl h6))), (Ak rfl (Ad rfl (em rfl h7))), (Ak rfl (Ad rfl (em rfl h8))), (Ak rfl (Ad rfl (em rfl h9))), (Ak rfl (Ad rfl (em rfl h10))), eh, rfl⟩
   refine Aj eh (Ab (e_t (Ad rfl (Ac rfl (em rfl h10)))) (Aj (em rfl eh) ?_))
   refine AB (e_t (Ad rfl (Ad rfl h1))) (by exact rfl) ?_
   refine Aj (Ac rfl eh) ?_
   refine Ap (e_t eh) ((Am rfl 0).trans rfl) (by exact rfl) ?_
   refine Aj (Ac rfl (em rfl eh)) ?_
   refine AP (Ay (e_t (Ac rfl eh)) AG (Ay (e_t eh) AG AR)) ?_
   refine AF0 v10 p0.Src rfl ?_
   refine Aj (Ad rfl eh) ?_
   obtain ⟨v12, hc_v12, hr⟩ := bind_some hr
   refine AP (Ay (e_t eh) AG AR) ?_
   refine KX n (Qz v10 p0.Src) hc_v12 ?_
   refine An (e_t (Ad rfl (em rfl eh))) (e_t eh) (Aa ?_)
   exact ⟨v12, hr, (Ak rfl (Ad rfl (em rfl h1))), (Ak rfl (Ad rfl (em rfl h3))), (Ak rfl (Ad rfl (em rfl h4))), (Ak rfl (Ad rfl (em rfl h5))), (Ak rfl (Ad rfl (em rfl h6))), (Ak rfl (Ad rfl (em rfl h7))), (Ak rfl (Ad rfl (em rfl h8))), (Ak rfl (Ad rfl (em rfl h9))), (Ak rfl (Ad rfl (em rfl h10))), eh, rfl⟩
 rintro f st' ⟨v13, hr, h1, h3, h4, h5, h6, h7, h8, h9, h10, h50, rfl⟩
 rw [IQ] at hr
 refine Bb (fun f st' => ∃ (v14 : Bool), Hu p0 n v4 v5 v6 v7 v8 v9 v10 v14 = some r ∧ f 1 = (.ptr (st.length + 0) 0) ∧ f 4 = (.d (.bool v4)) ∧ f 5 = (.d (.bool v5)) ∧ f 6 = (.d (.bool v6)) ∧ f 7 = (.d (.bool v7)) ∧ f 8 = (.d (.int .i64 v8)) ∧ f 9 = (.d (.int .i64 v9)) ∧ f 10 = (.d (.bool v10)) ∧ f 58 = (.d (.bool v14)) ∧ st' = st ++ [(.box [(.d (.int .i64 p0.Op)), (.d (.str p0.Name)), (.d (.str p0.Src)), (.d (.int .i64 p0.N)), (.d (.sl (List.map rS p0.Cols))), (.d (.sl (List.map TE.row p0.Exprs))), (.d (.sl (List.map TS.row p0.Body))), (.d (.sl (List.map TS.row p0.Else)))])]) ?_ ?_
 · unfold PQ
   refine Ab (e_t h50) ?_
   refine Au eh hr (fun hr => ?_) (fun hr => ?_)
   rotate_left
   · refine Ah eh (Ah (em rfl eh) ?_)
     refine A8 eh ?_
     refine A8 (em rfl eh) ?_
     refine A8 (Ac rfl eh) ?_
     refine Ah (Ad rfl (em rfl eh)) (Ao (e_t (Ad rfl (Ac rfl eh))) e_c (Aa ?_))
     exact ⟨false, hr, (Ak rfl (em rfl h1)), (Ak rfl (em rfl h4)), (Ak rfl (em rfl h5)), (Ak rfl (em rfl h6)), (Ak rfl (em rfl h7)), (Ak rfl (em rfl h8)), (Ak rfl (em rfl h9)), (Ak rfl (em rfl h10)), eh, rfl⟩
   refine Aj eh (Ab (e_t (Ac rfl h3)) (Aj (em rfl eh) (Ab (e_t eh) ?_)))
   refine Au eh hr (fun hr => ?_) (fun hr => ?_)
   · refine Ah eh (Ah (em rfl eh) (Ah (Ac rfl eh) (Aj (Ad rfl (Ac rfl eh)) (An (e_t (Ac rfl (em rfl eh))) e_c (An (e_t (Ad rfl (Ac rfl (em rfl eh)))) (e_t eh) ?_)))))
     refine Aa ?_
     exact ⟨true, hr, (Ak rfl (Ac rfl h1)), (Ak rfl (Ac rfl h4)), (Ak rfl (Ac rfl h5)), (Ak rfl (Ac rfl h6)), (Ak rfl (Ac rfl h7)), (Ak rfl (Ac rfl h8)), (Ak rfl (Ac rfl h9)), (Ak rfl (Ac rfl h10)), eh, rfl⟩
   refine Aj eh ?_
   refine AB (e_t (Ad rfl (em rfl h1))) (by exact rfl) ?_
   refine Aj (em rfl eh) ?_
   refine Ap (e_t eh) ((Am rfl 0).trans rfl) (by exact rfl) ?_
   refine Aj (Ac rfl eh) ?_
   refine Ar (e_t eh) e_c (Db ?_)
   refine Aj (Ad rfl (Ac rfl eh)) (Ao (e_t (Ac rfl (em rfl eh))) (e_t eh) (An (e_t (Ad rfl (Ac rfl (em rfl eh)))) (e_t eh) (Aa ?_)))
   exact ⟨(decide (p0.Name = (⟨#[]⟩ : ByteArray))), hr, (Ak rfl (Ac rfl h1)), (Ak rfl (Ac rfl h4)), (Ak rfl (Ac rfl h5)), (Ak rfl (Ac rfl h6)), (Ak rfl (Ac rfl h7)), (Ak rfl (Ac rfl h8)), (Ak rfl (Ac rfl h9)), (Ak rfl (Ac rfl h10)), eh, rfl⟩
 rintro f st' ⟨v14, hr, h1, h4, h5, h6, h7, h8, h9, h10, h58, rfl⟩
 rw [Hu] at hr
 refine Bb (fun f st' => ∃ (v15 : Bool), HD p0 n v4 v5 v6 v7 v8 v9 v15 = some r ∧ f 1 = (.ptr (st.length + 0) 0) ∧ f 4 = (.d (.bool v4)) ∧ f 5 = (.d (.bool v5)) ∧ f 6 = (.d (.bool v6)) ∧ f 7 = (.d (.bool v7)) ∧ f 8 = (.d (.int .i64 v8)) ∧ f 9 = (.d (.int .i64 v9)) ∧ f 66 = (.d (.bool v15)) ∧ st' = st ++ [(.box [(.d (.int .i64 p0.Op)), (.d (.str p0.Name)), (.d (.str p0.Src)), (.d (.int .i64 p0.N)), (.d (.sl (List.map rS p0.Cols))), (.d (.sl (List.map TE.row p0.Exprs))), (.d (.sl (List.map TS.row p0.Body))), (.d (.sl (List.map TS.row p0.Else)))])]) ?_ ?_
 · unfold Q1
   refine Ab (e_t h58) ?_
   refine Au eh hr (fun hr => ?_) (fun hr => ?_)
   rotate_left
   · refine Ah eh (Ah (em rfl eh) ?_)
     refine A8 eh ?_
     refine A8 (em rfl eh) ?_
     refine A8 (Ac rfl eh) ?_
     refine Ah (Ad rfl (em rfl eh)) (Ao (e_t (Ad rfl (Ac rfl eh))) e_c (Aa ?_))
     exact ⟨false, hr, (Ak rfl (em rfl h1)), (Ak rfl (em rfl h4)), (Ak rfl (em rfl h5)), (Ak rfl (em rfl h6)), (Ak rfl (em rfl h7)), (Ak rfl (em rfl h8)), (Ak rfl (em rfl h9)), eh, rfl⟩
   refine Aj eh (Ab (e_t (Ac rfl h10)) (Aj (em rfl eh) (Ab (e_t eh) ?_)))
   refine Au eh hr (fun hr => ?_) (fun hr => ?_)
   · refine Ah eh (Ah (em rfl eh) (Ah (Ac rfl eh) (Aj (Ad rfl (Ac rfl eh)) (An (e_t (Ac rfl (em rfl eh))) e_c (An (e_t (Ad rfl (Ac rfl (em rfl eh)))) (e_t eh) ?_)))))
     refine Aa ?_
     exact ⟨true, hr, (Ak rfl (Ac rfl h1)), (Ak rfl (Ac rfl h4)), (Ak rfl (Ac rfl h5)), (Ak rfl (Ac rfl h6)), (Ak rfl (Ac rfl h7)), (Ak rfl (Ac rfl h8)), (Ak rfl (Ac rfl h9)), eh, rfl⟩
   refine Aj eh ?_
   refine AB (e_t (Ad rfl (em rfl h1))) (by exact rfl) ?_
   refine Aj (em rfl eh) ?_
   refine Ap (e_t eh) ((Am rfl 0).trans rfl) (by exact rfl) ?_
   refine Aj (Ac rfl eh) ?_
   refine Ar (e_t eh) e_c (Db ?_)
   refine Aj (Ad rfl (Ac rfl eh)) (Ao (e_t (Ac rfl (em rfl eh))) (e_t eh) (An (e_t (Ad rfl (Ac rfl (em rfl eh)))) (e_t eh) (Aa ?_)))
   exact ⟨(decide (p0.Src = (⟨#[]⟩ : ByteArray))), hr, (Ak rfl (Ac rfl h1)), (Ak rfl (Ac rfl h4)), (Ak rfl (Ac rfl h5)), (Ak rfl (Ac rfl h6)), (Ak rfl (Ac rfl h7)), (Ak rfl (Ac rfl h8)), (Ak rfl (Ac rfl h9)), eh, rfl⟩
 rintro f st' ⟨v15, hr, h1, h4, h5, h6, h7, h8, h9, h66, rfl⟩
 rw [HD] at hr
 refine Bb (fun f st' => ∃ (v18 : Bool), De p0 v5 v6 v7 v8 v9 v18 = some r ∧ f 1 = (.ptr (st.length + 0) 0) ∧ f 5 = (.d (.bool v5)) ∧ f 6 = (.d (.bool v6)) ∧ f 7 = (.d (.bool v7)) ∧ f 8 = (.d (.int .i64 v8)) ∧ f 9 = (.d (.int .i64 v9)) ∧ f 95 = (.d (.bool v18)) ∧ st' = st ++ [(.box [(.d (.int .i64 p0.Op)), (.d (.str p0.Name)), (.d (.str p0.Src)), (.d (.int .i64 p0.N)), (.d (.sl (List.map rS p0.Cols))), (.d (.sl (List.map TE.row p0.Exprs))), (.d (.sl (List.map TS.row p0.Body))), (.d (.sl (List.map TS.row p0.Else)))])]) ?_ ?_
 rotate_left
 · rintro f st' ⟨v18, hr, h1, h5, h6, h7, h8, h9, h95, rfl⟩
   rw [De] at hr
   refine Bb (fun f st' => ∃ (v19 : Bool), Fh p0 v6 v7 v8 v9 v19 = some r ∧ f 1 = (.ptr (st.length + 0) 0) ∧ f 6 = (.d (.bool v6)) ∧ f 7 = (.d (.bool v7)) ∧ f 8 = (.d (.int .i64 v8)) ∧ f 9 = (.d (.int .i64 v9)) ∧ f 112 = (.d (.bool v19)) ∧ st' = st ++ [(.box [(.d (.int .i64 p0.Op)), (.d (.str p0.Name)), (.d (.str p0.Src)), (.d (.int .i64 p0.N)), (.d (.sl (List.map rS p0.Cols))), (.d (.sl (List.map TE.row p0.Exprs))), (.d (.sl (List.map TS.row p0.Body))), (.d (.sl (List.map TS.row p0.Else)))])]) ?_ ?_
   · unfold QB
     refine Ab (e_t h95) ?_
     refine Au eh hr (fun hr => ?_) (fun hr => ?_)
     rotate_left
     · refine Ah eh (Ah (em rfl eh) ?_)
       refine A8 eh ?_
       refine A8 (em rfl eh) ?_
       refine A8 (Ac rfl eh) ?_
       refine Ah (Ad rfl (em rfl eh)) (Ah (Ad rfl (Ac rfl eh)) ?_)
       refine A8 eh ?_
       refine A8 (em rfl eh) ?_
       refine A8 (Ac rfl eh) ?_
       refine A8 eh ?_
       refine A8 (em rfl eh) ?_
       refine A8 (Ac rfl eh) ?_
       refine A8 (Ad rfl (Ac rfl eh)) ?_
       refine Ah (Ak rfl (Ad rfl (Ac rfl eh))) (Ao (e_t (Ak rfl (Ad rfl (Ac rfl (em rfl eh))))) e_c (Aa ?_))
       exact ⟨false, hr, (Ai rfl (Ac rfl h1)), (Ai rfl (Ac rfl h6)), (Ai rfl (Ac rfl h7)), (Ai rfl (Ac rfl h8)), (Ai rfl (Ac rfl h9)), eh, rfl⟩
     refine Aj eh (Ab (e_t (Ac rfl h5)) (Aj (em rfl eh) (Ab (e_t eh) ?_)))
     refine Au eh hr (fun hr => ?_) (fun hr => ?_)
     rotate_left
     · refine Ah eh (Ah (em rfl eh) (Ah (Ac rfl eh) (Aj (Ad rfl (Ac rfl eh)) (Ao (e_t (Ac rfl (em rfl eh))) e_c (Aj (Ad rfl (Ac rfl (em rfl eh))) ?_)))))
       refine Ab (e_t eh) (Aj eh (Ab (e_t (Ak rfl (Ac rfl h5))) (Aj (em rfl eh) (CS (e_t eh) (Aj (Ac rfl eh) ?_)))))
       refine Ab (e_t eh) ?_
       refine Au eh hr (fun hr => ?_) (fun hr => ?_)
       rotate_left
       · refine Ah eh (Ah (em rfl eh) (Ah (Ac rfl eh) (Aj (Ad rfl (Ac rfl (em rfl eh))) (Ao (e_t (Ac rfl (em rfl eh))) e_c (Aj (Ak rfl (Ad rfl (Ad rfl eh))) ?_)))))
         refine Ao (e_t (Ad rfl (Ad rfl eh))) (e_t eh) (An (e_t (Ai rfl (em rfl eh))) (e_t eh) (Aa ?_))
         exact ⟨false, hr, (Ai rfl (Ad rfl h1)), (Ai rfl (Ad rfl h6)), (Ai rfl (Ad rfl h7)), (Ai rfl (Ad rfl h8)), (Ai rfl (Ad rfl h9)), eh, rfl⟩
       refine Aj eh ?_
       refine AB (e_t (Ak rfl (Ad rfl (Ac rfl h1)))) (by exact rfl) ?_
       refine Aj (em rfl eh) ?_
       refine Ap (e_t eh) ((Am rfl 0).trans rfl) (by exact rfl) ?_
       refine Aj (Ac rfl eh) ?_
       refine Ar (e_t eh) e_c (BZ ?_)
       refine Aj (Ad rfl (Ac rfl (em rfl eh))) (An (e_t (Ac rfl (em rfl eh))) (e_t eh) (Aj (Ak rfl (Ad rfl (Ad rfl eh))) (Ao (e_t (Ad rfl (Ad rfl eh))) (e_t eh) (An (e_t (Ai rfl (em rfl eh))) (e_t eh) (Aa ?_)))))
       exact ⟨(decide (p0.N = (0 : Int))), hr, (Ai rfl (Ad rfl h1)), (Ai rfl (Ad rfl h6)), (Ai rfl (Ad rfl h7)), (Ai rfl (Ad rfl h8)), (Ai rfl (Ad rfl h9)), eh, rfl⟩
     refine Aj eh ?_
     refine AB (e_t (Ad rfl (em rfl h1))) (by exact rfl) ?_
     refine Aj (em rfl eh) ?_
     refine Ap (e_t eh) ((Am rfl 0).trans rfl) (by exact rfl) ?_
     refine Aj (Ac rfl eh) ?_
     refine AP (Ay (e_t eh) AG (Ay e_c AG (Ay e_c AG AR))) ?_
     refine Ns p0.N (0 : Int) (1000 : Int) rfl ?_
     refine Aj (Ad rfl (Ac rfl eh)) (An (e_t (Ac rfl (em rfl eh))) (e_t eh) (Aj (Ad rfl (Ac rfl (em rfl eh))) (Ab (e_t eh) ?_)))
     refine Au eh hr (fun hr => ?_) (fun hr => ?_)
     · refine Ah eh (Ah (em rfl eh) (Ah (Ac rfl eh) ?_))
       refine A8 eh ?_
       refine A8 (em rfl eh) ?_
       refine A8 (Ac rfl eh) ?_
       refine Ah (Ad rfl (Ac rfl eh)) (Aj (Ak rfl (Ad rfl (Ad rfl eh))) (An (e_t (Ad rfl (Ac rfl (em rfl eh)))) e_c (An (e_t (Ai rfl (em rfl eh))) (e_t eh) (Aa ?_))))
       exact ⟨true, hr, (Ai rfl (Ad rfl h1)), (Ai rfl (Ad rfl h6)), (Ai rfl (Ad rfl h7)), (Ai rfl (Ad rfl h8)), (Ai rfl (Ad rfl h9)), eh, rfl⟩
     refine Aj eh (Ab (e_t (Ak rfl (Ac rfl (em rfl h5)))) (Aj (em rfl eh) (CS (e_t eh) (Aj (Ac rfl eh) (Ab (e_t eh) ?_)))))
     refine Au eh hr (fun hr => ?_) (fun hr => ?_)
     rotate_left
     · refine Ah eh (Ah (em rfl eh) (Ah (Ac rfl eh) (Aj (Ad rfl (Ac rfl (em rfl eh))) (Ao (e_t (Ac rfl (em rfl eh))) e_c (Aj (Ai rfl (em rfl eh)) ?_)))))
       refine Ao (e_t (Ad rfl (Ad rfl eh))) (e_t eh) (An (e_t (Ai rfl (Ac rfl eh))) (e_t eh) (Aa ?_))
       exact ⟨false, hr, (Ai rfl (Ad rfl (em rfl h1))), (Ai rfl (Ad rfl (em rfl h6))), (Ai rfl (Ad rfl (em rfl h7))), (Ai rfl (Ad rfl (em rfl h8))), (Ai rfl (Ad rfl (em rfl h9))), eh, rfl⟩
     refine Aj eh ?_
     refine AB (e_t (Ak rfl (Ad rfl (Ac rfl (em rfl h1))))) (by exact rfl) ?_
     refine Aj (em rfl eh) ?_
     refine Ap (e_t eh) ((Am rfl 0).trans rfl) (by exact rfl) ?_
     refine Aj (Ac rfl eh) ?_
     refine Ar (e_t eh) e_c (BZ ?_)
     refine Aj (Ad rfl (Ac rfl (em rfl eh))) (An (e_t (Ac rfl (em rfl eh))) (e_t eh) (Aj (Ai rfl (em rfl eh)) (Ao (e_t (Ad rfl (Ad rfl eh))) (e_t eh) (An (e_t (Ai rfl (Ac rfl eh))) (e_t eh) (Aa ?_)))))
     exact ⟨(decide (p0.N = (0 : Int))), hr, (Ai rfl (Ad rfl (em rfl h1))), (Ai rfl (Ad rfl (em rfl h6))), (Ai rfl (Ad rfl (em rfl h7))), (Ai rfl (Ad rfl (em rfl h8))), (Ai rfl (Ad rfl (em rfl h9))), eh, rfl⟩
   rintro f st' ⟨v19, hr, h1, h6, h7, h8, h9, h112, rfl⟩
   rw [Fh] at hr
   refine Bb (fun f st' => ∃ (v20 : Bool), IJ p0 v6 v7 v20 = some r ∧ f 1 = (.ptr (st.length + 0) 0) ∧ f 6 = (.d (.bool v6)) ∧ f 7 = (.d (.bool v7)) ∧ f 120 = (.d (.bool v20)) ∧ st' = st ++ [(.box [(.d (.int .i64 p0.Op)), (.d (.str p0.Name)), (.d (.str p0.Src)), (.d (.int .i64 p0.N)), (.d (.sl (List.map rS p0.Cols))), (.d (.sl (List.map TE.row p0.Exprs))), (.d (.sl (List.map TS.row p0.Body))), (.d (.sl (List.map TS.row p0.Else)))])]) ?_ ?_
   · unfold Ri
     refine Ab (e_t h112) ?_
     refine Au eh hr (fun hr => ?_) (fun hr => ?_)
     rotate_left
     · refine Ah eh (Ah (em rfl eh) (Ah (Ac rfl eh) (Ah (Ac rfl (em rfl eh)) (Ah (Ad rfl eh) (Ah (Ad rfl (em rfl eh)) ?_)))))
       refine Ao (e_t (Ad rfl (Ac rfl eh))) e_c (Aa ?_)
       exact ⟨false, hr, (Ak rfl (em rfl h1)), (Ak rfl (em rfl h6)), (Ak rfl (em rfl h7)), eh, rfl⟩
     refine Aj eh ?_
     refine AB (e_t (Ac rfl h1)) (by exact rfl) ?_
     refine Aj (em rfl eh) ?_
     refine Ap (e_t eh) ((Am rfl 0).trans rfl) (by exact rfl) ?_
     refine Aj (Ac rfl eh) ?_
     refine Bh (row := TE.row) (AL (e_t eh) Bq) ?_
     refine Aj (Ac rfl (em rfl eh)) (Ab (e_t (Ad rfl (em rfl h8))) (Aj (Ad rfl eh) (Ab (e_t (Ad rfl (Ac rfl h9))) (Aj (Ad rfl (em rfl eh)) ?_))))
     refine AP (Ay (e_t (Ac rfl eh)) AG (Ay (e_t (em rfl eh)) AG (Ay (e_t eh) AG AR))) ?_
     refine Ns (p0.Exprs.length : Int) v8 v9 rfl ?_
     refine An (e_t (Ad rfl (Ac rfl eh))) (e_t eh) (Aa ?_)
     exact ⟨(C7 (p0.Exprs.length : Int) v8 v9), hr, (Ak rfl (em rfl h1)), (Ak rfl (em rfl h6)), (Ak rfl (em rfl h7)), eh, rfl⟩
   rintro f st' ⟨v20, hr, h1, h6, h7, h120, rfl⟩
   rw [IJ] at hr
   refine Bb (fun f st' => ∃ (v21 : Bool), HA p0 v7 v21 = some r ∧ f 1 = (.ptr (st.length + 0) 0) ∧ f 7 = (.d (.bool v7)) ∧ f 129 = (.d (.bool v21)) ∧ st' = st ++ [(.box [(.d (.int .i64 p0.Op)), (.d (.str p0.Name)), (.d (.str p0.Src)), (.d (.int .i64 p0.N)), (.d (.sl (List.map rS p0.Cols))), (.d (.sl (List.map TE.row p0.Exprs))), (.d (.sl (List.map TS.row p0.Body))), (.d (.sl (List.map TS.row p0.Else)))])]) ?_ ?_
   · unfold QW
     refine Ab (e_t h120) ?_
     refine Au eh hr (fun hr => ?_) (fun hr => ?_)
     rotate_left
     · refine Ah eh (Ah (em rfl eh) ?_)
       refine A8 eh ?_
       refine A8 (em rfl eh) ?_
       refine A8 (Ac rfl eh) ?_
       refine A8 (Ac rfl (em rfl eh)) ?_
       refine Ah (Ad rfl (Ac rfl eh)) (Ao (e_t (Ad rfl (Ac rfl (em rfl eh)))) e_c (Aa ?_))
       exact ⟨false, hr, (Ak rfl (Ac rfl h1)), (Ak rfl (Ac rfl h7)), eh, rfl⟩
     refine Aj eh (Ab (e_t (Ac rfl h6)) (Aj (em rfl eh) (Ab (e_t eh) ?_)))
     refine Au eh hr (fun hr => ?_) (fun hr => ?_)
     · refine Ah eh (Ah (em rfl eh) (Ah (Ac rfl eh) (Ah (Ac rfl (em rfl eh)) (Aj (Ad rfl (Ac rfl (em rfl eh))) (An (e_t (Ad rfl eh)) e_c ?_)))))
       refine An (e_t (Ad rfl (Ad rfl eh))) (e_t eh) (Aa ?_)
       exact ⟨true, hr, (Ak rfl (Ac rfl (em rfl h1))), (Ak rfl (Ac rfl (em rfl h7))), eh, rfl⟩
     refine Aj eh ?_
     refine AB (e_t (Ad rfl (em rfl h1))) (by exact rfl) ?_
     refine Aj (em rfl eh) ?_
     refine Ap (e_t eh) ((Am rfl 0).trans rfl) (by exact rfl) ?_
     refine Aj (Ac rfl eh) ?_
     refine Bh (row := TS.row) (AL (e_t eh) Bq) ?_
     refine Aj (Ac rfl (em rfl eh)) ?_
     refine Ar (e_t eh) e_c (BZ ?_)
     refine Aj (Ad rfl (Ac rfl (em rfl eh))) (Ao (e_t (Ad rfl eh)) (e_t eh) (An (e_t (Ad rfl (Ad rfl eh))) (e_t eh) (Aa ?_)))
     exact ⟨(decide ((p0.Body.length : Int) = (0 : Int))), hr, (Ak rfl (Ac rfl (em rfl h1))), (Ak rfl (Ac rfl (em rfl h7))), eh, rfl⟩
   rintro f st' ⟨v21, hr, h1, h7, h129, rfl⟩
   rw [HA] at hr
   refine Bo ?_
   unfold Qo
   refine Ab (e_t h129) ?_
   refine Au eh hr (fun hr => ?_) (fun hr => ?_)
   rotate_left
   · refine Ah eh (Ah (em rfl eh) ?_)
     refine A8 eh ?_
     refine A8 (em rfl eh) ?_
     refine A8 (Ac rfl eh) ?_
     refine A8 (Ac rfl (em rfl eh)) ?_
     refine Ah (Ad rfl (Ac rfl eh)) (Ao (e_t (Ad rfl (Ac rfl (em rfl eh)))) e_c (Aa ?_))
     unfold I0
     refine Ab (e_t eh) (Aa (Ae (AI ?_)))
     cases hr
     exact A7 (AF eh AH) (AM AG v_d) (Av hwf) h
   refine Aj eh (Ab (e_t (Ac rfl h7)) (Aj (em rfl eh) (Ab (e_t eh) ?_)))
   refine Au eh hr (fun hr => ?_) (fun hr => ?_)
   · refine Ah eh (Ah (em rfl eh) (Ah (Ac rfl eh) (Ah (Ac rfl (em rfl eh)) (Aj (Ad rfl (Ac rfl (em rfl eh))) (An (e_t (Ad rfl eh)) e_c ?_)))))
     refine An (e_t (Ad rfl (Ad rfl eh))) (e_t eh) (Aa ?_)
     unfold I0
     refine Ab (e_t eh) (Aa (Ae (AI ?_)))
     cases hr
     exact A7 (AF eh AH) (AM AG v_d) (Av hwf) h
   refine Aj eh ?_
   refine AB (e_t (Ad rfl (em rfl h1))) (by exact rfl) ?_
   refine Aj (em rfl eh) ?_
   refine Ap (e_t eh) ((Am rfl 0).trans rfl) (by exact rfl) ?_
   refine Aj (Ac rfl eh) ?_
   refine Bh (row := TS.row) (AL (e_t eh) Bq) ?_
   refine Aj (Ac rfl (em rfl eh)) ?_
   refine Ar (e_t eh) e_c (BZ ?_)
   refine Aj (Ad rfl (Ac rfl (em rfl eh))) (Ao (e_t (Ad rfl eh)) (e_t eh) (An (e_t (Ad rfl (Ad rfl eh))) (e_t eh) (Aa ?_)))
   unfold I0
   refine Ab (e_t eh) (Aa (Ae (AI ?_)))
   cases hr
   exact A7 (AF eh AH) (AM AG v_d) (Av hwf) h
 unfold PO
 refine Ab (e_t h66) ?_
 refine Au eh hr (fun hr => ?_) (fun hr => ?_)
 rotate_left
 · refine Ah eh (Ah (em rfl eh) ?_)
   refine A8 eh ?_
   refine A8 (em rfl eh) ?_
   refine A8 (Ac rfl eh) ?_
   refine A8 (Ac rfl (em rfl eh)) ?_
   refine Ah (Ad rfl (Ac rfl eh)) (Ah (Ad rfl (Ac rfl (em rfl eh))) ?_)
   refine A8 eh ?_
   refine A8 (em rfl eh) ?_
   refine A8 (Ac rfl eh) ?_
   refine Ah (Ak rfl (Ac rfl (em rfl eh))) (Ah (Ak rfl (Ad rfl eh)) ?_)
   refine A8 eh ?_
   refine A8 (em rfl eh) ?_
   refine A8 (Ac rfl eh) ?_
   refine Ah (Ak rfl (Ad rfl (Ad rfl eh))) (Ah (Ai rfl (em rfl eh)) ?_)
   refine A8 eh ?_
   refine A8 (em rfl eh) ?_
   refine A8 (Ac rfl eh) ?_
   refine A8 eh ?_
   refine A8 (em rfl eh) ?_
   refine A8 (Ac rfl eh) ?_
   refine A8 (Ac rfl (em rfl eh)) ?_
   refine A8 (Ad rfl (Ac rfl (em rfl eh))) ?_
   refine Ah (Ai rfl (Ak rfl (Ac rfl eh))) (Ao (e_t (Ai rfl (Ak rfl (Ac rfl (em rfl eh))))) e_c (Aa ?_))
   exact ⟨false, hr, (Ai rfl (Ak rfl (Ad rfl (Ac rfl h1)))), (Ai rfl (Ak rfl (Ad rfl (Ac rfl h5)))), (Ai rfl (Ak rfl (Ad rfl (Ac rfl h6)))), (Ai rfl (Ak rfl (Ad rfl (Ac rfl h7)))), (Ai rfl (Ak rfl (Ad rfl (Ac rfl h8)))), (Ai rfl (Ak rfl (Ad rfl (Ac rfl h9)))), eh, rfl⟩
 refine Aj eh (Ab (e_t (Ac rfl h4)) (Aj (em rfl eh) (Ab (e_t eh) ?_)))
 refine Au eh hr (fun hr => ?_) (fun hr => ?_)
 rotate_left
 · refine Ah eh (Ah (em rfl eh) (Ah (Ac rfl eh) (Ah (Ac rfl (em rfl eh)) (Aj (Ad rfl (Ac rfl (em rfl eh))) (Ao (e_t (Ad rfl eh)) e_c ?_)))))
   refine Aj (Ad rfl (Ad rfl eh)) (Ab (e_t eh) (Ah eh (Ah (em rfl eh) (Ah (Ac rfl eh) (Aj (Ak rfl (Ad rfl eh)) ?_)))))
   refine Ao (e_t (Ac rfl (em rfl eh))) e_c (Aj (Ak rfl (Ad rfl (em rfl eh))) (Ab (e_t eh) (Ah eh (Ah (em rfl eh) (Ah (Ac rfl eh) ?_)))))
   refine Aj (Ai rfl (em rfl eh)) (Ao (e_t (Ac rfl (em rfl eh))) e_c (Aj (Ai rfl (Ac rfl eh)) (Ab (e_t eh) (Aj eh (Ab (e_t (Ai rfl (Ad rfl (em rfl h4)))) ?_)))))
   refine Aj (em rfl eh) (CS (e_t eh) (Aj (Ac rfl eh) (Ab (e_t eh) ?_)))
   refine Au eh hr (fun hr => ?_) (fun hr => ?_)
   rotate_left
   · refine Ah eh (Ah (em rfl eh) (Ah (Ac rfl eh) (Ah (Ac rfl (em rfl eh)) (Aj (Ad rfl (Ad rfl eh)) (Ao (e_t (Ad rfl eh)) e_c ?_)))))
     refine Aj (Ai rfl (Ak rfl (Ad rfl eh))) (Ao (e_t (Ak rfl (em rfl eh))) (e_t eh) (An (e_t (Ai rfl (Ak rfl (Ad rfl (em rfl eh))))) (e_t eh) (Aa ?_)))
     exact ⟨false, hr, (Ai rfl (Ak rfl (Ad rfl (Ad rfl h1)))), (Ai rfl (Ak rfl (Ad rfl (Ad rfl h5)))), (Ai rfl (Ak rfl (Ad rfl (Ad rfl h6)))), (Ai rfl (Ak rfl (Ad rfl (Ad rfl h7)))), (Ai rfl (Ak rfl (Ad rfl (Ad rfl h8)))), (Ai rfl (Ak rfl (Ad rfl (Ad rfl h9)))), eh, rfl⟩
   refine Aj eh ?_
   refine AB (e_t (Ai rfl (Ak rfl (em rfl h1)))) (by exact rfl) ?_
   refine Aj (em rfl eh) ?_
   refine Ap (e_t eh) ((Am rfl 0).trans rfl) (by exact rfl) ?_
   refine Aj (Ac rfl eh) ?_
   refine Bh (row := rS) (AL (e_t eh) Bq) ?_
   refine Aj (Ac rfl (em rfl eh)) ?_
   refine Ar (e_t eh) e_c (BZ ?_)
   refine Aj (Ad rfl (Ad rfl eh)) (An (e_t (Ad rfl eh)) (e_t eh) (Aj (Ai rfl (Ak rfl (Ad rfl eh))) (Ao (e_t (Ak rfl (em rfl eh))) (e_t eh) (An (e_t (Ai rfl (Ak rfl (Ad rfl (em rfl eh))))) (e_t eh) (Aa ?_)))))
   exact ⟨(decide ((p0.Cols.length : Int) = (0 : Int))), hr, (Ai rfl (Ak rfl (Ad rfl (Ad rfl h1)))), (Ai rfl (Ak rfl (Ad rfl (Ad rfl h5)))), (Ai rfl (Ak rfl (Ad rfl (Ad rfl h6)))), (Ai rfl (Ak rfl (Ad rfl (Ad rfl h7)))), (Ai rfl (Ak rfl (Ad rfl (Ad rfl h8)))), (Ai rfl (Ak rfl (Ad rfl (Ad rfl h9)))), eh, rfl⟩
 refine Aj eh ?_
 refine AB (e_t (Ad rfl (em rfl h1))) (by exact rfl) ?_
 refine Aj (em rfl eh) ?_
 refine Ap (e_t eh) ((Am rfl 0).trans rfl) (by exact rfl) ?_
 refine Aj (Ac rfl eh) ?_
 refine Bh (row := rS) (AL (e_t eh) Bq) ?_
 refine Aj (Ac rfl (em rfl eh)) ?_
 refine AP (Ay (e_t eh) AG (Ay e_c AG (Ay e_c AG AR))) ?_
 refine Ns (p0.Cols.length : Int) (1 : Int) (8 : Int) rfl ?_
 refine Aj (Ad rfl (Ac rfl (em rfl eh))) (An (e_t (Ad rfl eh)) (e_t eh) (Aj (Ad rfl (Ad rfl eh)) (Ab (e_t eh) ?_)))
 refine Au eh hr (fun hr => ?_) (fun hr => ?_)
 rotate_left
 · refine Ah eh (Ah (em rfl eh) (Ah (Ac rfl eh) (Aj (Ak rfl (Ad rfl (em rfl eh))) (Ao (e_t (Ac rfl (em rfl eh))) e_c (Aj (Ak rfl (Ad rfl (Ac rfl eh))) ?_)))))
   refine Ab (e_t eh) (Ah eh (Ah (em rfl eh) (Ah (Ac rfl eh) (Aj (Ai rfl (Ac rfl eh)) (Ao (e_t (Ac rfl (em rfl eh))) e_c ?_)))))
   refine Aj (Ai rfl (Ac rfl (em rfl eh))) (Ab (e_t eh) (Aj eh (Ab (e_t (Ai rfl (Ad rfl (Ac rfl h4)))) (Aj (em rfl eh) (CS (e_t eh) ?_)))))
   refine Aj (Ac rfl eh) (Ab (e_t eh) ?_)
   refine Au eh hr (fun hr => ?_) (fun hr => ?_)
   rotate_left
   · refine Ah eh (Ah (em rfl eh) (Ah (Ac rfl eh) (Ah (Ac rfl (em rfl eh)) (Aj (Ad rfl (Ad rfl eh)) (Ao (e_t (Ad rfl eh)) e_c ?_)))))
     refine Aj (Ai rfl (Ak rfl (Ad rfl (em rfl eh)))) (Ao (e_t (Ak rfl (em rfl eh))) (e_t eh) (An (e_t (Ai rfl (Ak rfl (Ad rfl (Ac rfl eh))))) (e_t eh) (Aa ?_)))
     exact ⟨false, hr, (Ai rfl (Ai rfl (em rfl h1))), (Ai rfl (Ai rfl (em rfl h5))), (Ai rfl (Ai rfl (em rfl h6))), (Ai rfl (Ai rfl (em rfl h7))), (Ai rfl (Ai rfl (em rfl h8))), (Ai rfl (Ai rfl (em rfl h9))), eh, rfl⟩
   refine Aj eh ?_
   refine AB (e_t (Ai rfl (Ak rfl (Ac rfl h1)))) (by exact rfl) ?_
   refine Aj (em rfl eh) ?_
   refine Ap (e_t eh) ((Am rfl 0).trans rfl) (by exact rfl) ?_
   refine Aj (Ac rfl eh) ?_
   refine Bh (row := rS) (AL (e_t eh) Bq) ?_
   refine Aj (Ac rfl (em rfl eh)) ?_
   refine Ar (e_t eh) e_c (BZ ?_)
   refine Aj (Ad rfl (Ad rfl eh)) (An (e_t (Ad rfl eh)) (e_t eh) (Aj (Ai rfl (Ak rfl (Ad rfl (em rfl eh)))) (Ao (e_t (Ak rfl (em rfl eh))) (e_t eh) (An (e_t (Ai rfl (Ak rfl (Ad rfl (Ac rfl eh))))) (e_t eh) (Aa ?_)))))
   exact ⟨(decide ((p0.Cols.length : Int) = (0 : Int))), hr, (Ai rfl (Ai rfl (em rfl h1))), (Ai rfl (Ai rfl (em rfl h5))), (Ai rfl (Ai rfl (em rfl h6))), (Ai rfl (Ai rfl (em rfl h7))), (Ai rfl (Ai rfl (em rfl h8))), (Ai rfl (Ai rfl (em rfl h9))), eh, rfl⟩
 refine Aj eh ?_
 refine AB (e_t (Ak rfl (Ad rfl h1))) (by exact rfl) ?_
 refine Aj (em rfl eh) ?_
 refine Ap (e_t eh) ((Am rfl 0).trans rfl) (by exact rfl) ?_
 refine Aj (Ac rfl eh) ?_
 obtain ⟨v16, hc_v16, hr⟩ := bind_some hr
 refine AP (Ay (e_t eh) AG AR) ?_
 refine KX n p0.Cols hc_v16 ?_
 refine Aj (Ak rfl (Ad rfl (em rfl eh))) (An (e_t (Ac rfl (em rfl eh))) (e_t eh) (Aj (Ak rfl (Ad rfl (Ac rfl eh))) (Ab (e_t eh) ?_)))
 refine Au eh hr (fun hr => ?_) (fun hr => ?_)
 rotate_left
 · refine Ah eh (Ah (em rfl eh) (Ah (Ac rfl eh) (Aj (Ai rfl (Ac rfl (em rfl eh))) (Ao (e_t (Ac rfl (em rfl eh))) e_c (Aj (Ai rfl (Ad rfl eh)) ?_)))))
   refine Ab (e_t eh) (Aj eh (Ab (e_t (Ai rfl (Ad rfl (Ac rfl (em rfl h4))))) (Aj (em rfl eh) (CS (e_t eh) (Aj (Ac rfl eh) ?_)))))
   refine Ab (e_t eh) ?_
   refine Au eh hr (fun hr => ?_) (fun hr => ?_)
   rotate_left
   · refine Ah eh (Ah (em rfl eh) (Ah (Ac rfl eh) (Ah (Ac rfl (em rfl eh)) (Aj (Ad rfl (Ad rfl eh)) (Ao (e_t (Ad rfl eh)) e_c ?_)))))
     refine Aj (Ai rfl (Ak rfl (Ad rfl (Ac rfl eh)))) (Ao (e_t (Ak rfl (em rfl eh))) (e_t eh) (An (e_t (Ai rfl (Ak rfl (Ad rfl (Ac rfl (em rfl eh)))))) (e_t eh) (Aa ?_)))
     exact ⟨false, hr, (Ai rfl (Ai rfl (Ac rfl h1))), (Ai rfl (Ai rfl (Ac rfl h5))), (Ai rfl (Ai rfl (Ac rfl h6))), (Ai rfl (Ai rfl (Ac rfl h7))), (Ai rfl (Ai rfl (Ac rfl h8))), (Ai rfl (Ai rfl (Ac rfl h9))), eh, rfl⟩
   refine Aj eh ?_
   refine AB (e_t (Ai rfl (Ak rfl (Ac rfl (em rfl h1))))) (by exact rfl) ?_
   refine Aj (em rfl eh) ?_
   refine Ap (e_t eh) ((Am rfl 0).trans rfl) (by exact rfl) ?_
   refine Aj (Ac rfl eh) ?_
   refine Bh (row := rS) (AL (e_t eh) Bq) ?_
   refine Aj (Ac rfl (em rfl eh)) ?_
   refine Ar (e_t eh) e_c (BZ ?_)
   refine Aj (Ad rfl (Ad rfl eh)) (An (e_t (Ad rfl eh)) (e_t eh) (Aj (Ai rfl (Ak rfl (Ad rfl (Ac rfl eh)))) (Ao (e_t (Ak rfl (em rfl eh))) (e_t eh) (An (e_t (Ai rfl (Ak rfl (Ad rfl (Ac rfl (em rfl eh)))))) (e_t eh) (Aa ?_)))))
   exact ⟨(decide ((p0.Cols.length : Int) = (0 : Int))), hr, (Ai rfl (Ai rfl (Ac rfl h1))), (Ai rfl (Ai rfl (Ac rfl h5))), (Ai rfl (Ai rfl (Ac rfl h6))), (Ai rfl (Ai rfl (Ac rfl h7))), (Ai rfl (Ai rfl (Ac rfl h8))), (Ai rfl (Ai rfl (Ac rfl h9))), eh, rfl⟩
 refine Aj eh ?_
 refine AB (e_t (Ai rfl (Ac rfl h1))) (by exact rfl) ?_
 refine Aj (em rfl eh) ?_
 refine Ap (e_t eh) ((Am rfl 0).trans rfl) (by exact rfl) ?_
 refine Aj (Ac rfl eh) ?_
 obtain ⟨v17, hc_v17, hr⟩ := bind_some hr
 refine AP (Ay (e_t eh) AG AR) ?_
 refine Ad7 p0.Cols hc_v17 ?_
 refine Aj (Ai rfl (Ac rfl (em rfl eh))) (An (e_t (Ac rfl (em rfl eh))) (e_t eh) (Aj (Ai rfl (Ad rfl eh)) (Ab (e_t eh) ?_)))
 refine Au eh hr (fun hr => ?_) (fun hr => ?_)
 · refine Ah eh (Ah (em rfl eh) (Ah (Ac rfl eh) ?_))
   refine A8 eh ?_
   refine A8 (em rfl eh) ?_
   refine A8 (Ac rfl eh) ?_
   refine A8 (Ac rfl (em rfl eh)) ?_
   refine Ah (Ad rfl (Ac rfl (em rfl eh))) (Aj (Ai rfl (Ak rfl (Ad rfl (Ac rfl eh)))) (An (e_t (Ad rfl (Ad rfl eh))) e_c (An (e_t (Ai rfl (Ak rfl (Ad rfl (Ac rfl (em rfl eh)))))) (e_t eh) (Aa ?_))))
   exact ⟨true, hr, (Ai rfl (Ai rfl (Ac rfl h1))), (Ai rfl (Ai rfl (Ac rfl h5))), (Ai rfl (Ai rfl (Ac rfl h6))), (Ai rfl (Ai rfl (Ac rfl h7))), (Ai rfl (Ai rfl (Ac rfl h8))), (Ai rfl (Ai rfl (Ac rfl h9))), eh, rfl⟩
 refine Aj eh (Ab (e_t (Ai rfl (Ad rfl (Ad rfl h4)))) (Aj (em rfl eh) (CS (e_t eh) (Aj (Ac rfl eh) (Ab (e_t eh) ?_)))))
 refine Au eh hr (fun hr => ?_) (fun hr => ?_)
 rotate_left
 · refine Ah eh (Ah (em rfl eh) (Ah (Ac rfl eh) (Ah (Ac rfl (em rfl eh)) (Aj (Ad rfl (Ad rfl eh)) (Ao (e_t (Ad rfl eh)) e_c ?_)))))
   refine Aj (Ai rfl (Ak rfl (Ad rfl (Ac rfl (em rfl eh))))) (Ao (e_t (Ak rfl (em rfl eh))) (e_t eh) (An (e_t (Ai rfl (Ak rfl (Ad rfl (Ad rfl eh))))) (e_t eh) (Aa ?_)))
   exact ⟨false, hr, (Ai rfl (Ai rfl (Ac rfl (em rfl h1)))), (Ai rfl (Ai rfl (Ac rfl (em rfl h5)))), (Ai rfl (Ai rfl (Ac rfl (em rfl h6)))), (Ai rfl (Ai rfl (Ac rfl (em rfl h7)))), (Ai rfl (Ai rfl (Ac rfl (em rfl h8)))), (Ai rfl (Ai rfl (Ac rfl (em rfl h9)))), eh, rfl⟩
 refine Aj eh ?_
 refine AB (e_t (Ai rfl (Ak rfl (Ad rfl h1)))) (by exact rfl) ?_
 refine Aj (em rfl eh) ?_
 refine Ap (e_t eh) ((Am rfl 0).trans rfl) (by exact rfl) ?_
 refine Aj (Ac rfl eh) ?_
 refine Bh (row := rS) (AL (e_t eh) Bq) ?_
 refine Aj (Ac rfl (em rfl eh)) ?_
 refine Ar (e_t eh) e_c (BZ ?_)
 refine Aj (Ad rfl (Ad rfl eh)) (An (e_t (Ad rfl eh)) (e_t eh) (Aj (Ai rfl (Ak rfl (Ad rfl (Ac rfl (em rfl eh))))) (Ao (e_t (Ak rfl (em rfl eh))) (e_t eh) (An (e_t (Ai rfl (Ak rfl (Ad rfl (Ad rfl eh))))) (e_t eh) (Aa ?_)))))
 exact ⟨(decide ((p0.Cols.length : Int) = (0 : Int))), hr, (Ai rfl (Ai rfl (Ac rfl (em rfl h1)))), (Ai rfl (Ai rfl (Ac rfl (em rfl h5)))), (Ai rfl (Ai rfl (Ac rfl (em rfl h6)))), (Ai rfl (Ai rfl (Ac rfl (em rfl h7)))), (Ai rfl (Ai rfl (Ac rfl (em rfl h8)))), (Ai rfl (Ai rfl (Ac rfl (em rfl h9)))), eh, rfl⟩
end Go.Ax
