import Derived.Test.YtojkpenjeglipaaGreatTWT
import Derived.Test.YtojkpenjeglipaaGreatTCVX
import Derived.Test.YtojkpenjeglipaaGreatTCPrim
import Derived.Test.YtojkpenjeglipaaGreatTWD8
import Derived.Test.YtojkpenjeglipaaGreatTWD9
import Derived.Test.YtojkpenjeglipaaGreatTWD10
set_option linter.unusedVariables false
set_option maxRecDepth 100000
set_option maxHeartbeats 4000000
namespace Go.Ax
attribute [local irreducible] BH FA F2 Bf DM Hp Cq V4 Lz upd ev u0 Dh frz A4 EO mmD bnd Ch Gk DU C2 Ie JH FZ cutV NL CO
variable {st : List Content}
def Ih (p0 : TS) (v7 : Bool) (v21 : Bool) : Option Bool :=
 (bif v21 then (bif v7 then some true else some (decide ((p0.Else.length : Int) = (0 : Int)))) else some false)
def Ki (p0 : TS) (v6 : Bool) (v7 : Bool) (v20 : Bool) : Option Bool :=
 (bif v20 then (bif v6 then (Ih p0 v7 true) else (Ih p0 v7 (decide ((p0.Body.length : Int) = (0 : Int))))) else (Ih p0 v7 false))
def Fa (p0 : TS) (v6 : Bool) (v7 : Bool) (v8 : Int) (v9 : Int) (v19 : Bool) : Option Bool :=
 (bif v19 then (Ki p0 v6 v7 (CY (p0.Exprs.length : Int) v8 v9)) else (Ki p0 v6 v7 false))
def De (p0 : TS) (v5 : Bool) (v6 : Bool) (v7 : Bool) (v8 : Int) (v9 : Int) (v18 : Bool) : Option Bool :=
 (bif v18 then (bif v5 then (bif (CY p0.N (0 : Int) (1000 : Int)) then (Fa p0 v6 v7 v8 v9 true) else (bif (!v5) then (Fa p0 v6 v7 v8 v9 (decide (p0.N = (0 : Int)))) else (Fa p0 v6 v7 v8 v9 false))) else (bif (!v5) then (Fa p0 v6 v7 v8 v9 (decide (p0.N = (0 : Int)))) else (Fa p0 v6 v7 v8 v9 false))) else (Fa p0 v6 v7 v8 v9 false))
def H5 (p0 : TS) (n : Nat) (v4 : Bool) (v5 : Bool) (v6 : Bool) (v7 : Bool) (v8 : Int) (v9 : Int) (v15 : Bool) : Option Bool :=
 (bif v15 then (bif v4 then (bif (CY (p0.Cols.length : Int) (1 : Int) (8 : Int)) then ((Gt n p0.Cols).bind fun v16 => (bif v16 then ((TW p0.Cols).bind fun v17 => (bif v17 then (De p0 v5 v6 v7 v8 v9 true) else (bif (!v4) then (De p0 v5 v6 v7 v8 v9 (decide ((p0.Cols.length : Int) = (0 : Int)))) else (De p0 v5 v6 v7 v8 v9 false)))) else (bif (!v4) then (De p0 v5 v6 v7 v8 v9 (decide ((p0.Cols.length : Int) = (0 : Int)))) else (De p0 v5 v6 v7 v8 v9 false)))) else (bif (!v4) then (De p0 v5 v6 v7 v8 v9 (decide ((p0.Cols.length : Int) = (0 : Int)))) else (De p0 v5 v6 v7 v8 v9 false))) else (bif (!v4) then (De p0 v5 v6 v7 v8 v9 (decide ((p0.Cols.length : Int) = (0 : Int)))) else (De p0 v5 v6 v7 v8 v9 false))) else (De p0 v5 v6 v7 v8 v9 false))
def H7 (p0 : TS) (n : Nat) (v4 : Bool) (v5 : Bool) (v6 : Bool) (v7 : Bool) (v8 : Int) (v9 : Int) (v10 : Bool) (v14 : Bool) : Option Bool :=
 (bif v14 then (bif v10 then (H5 p0 n v4 v5 v6 v7 v8 v9 true) else (H5 p0 n v4 v5 v6 v7 v8 v9 (decide (p0.Src = (⟨#[]⟩ : ByteArray))))) else (H5 p0 n v4 v5 v6 v7 v8 v9 false))
def Kp (p0 : TS) (n : Nat) (v3 : Bool) (v4 : Bool) (v5 : Bool) (v6 : Bool) (v7 : Bool) (v8 : Int) (v9 : Int) (v10 : Bool) (v13 : Bool) : Option Bool :=
 (bif v13 then (bif v3 then (H7 p0 n v4 v5 v6 v7 v8 v9 v10 true) else (H7 p0 n v4 v5 v6 v7 v8 v9 v10 (decide (p0.Name = (⟨#[]⟩ : ByteArray))))) else (H7 p0 n v4 v5 v6 v7 v8 v9 v10 false))
def Dc (p0 : TS) (n : Nat) (v3 : Bool) (v4 : Bool) (v5 : Bool) (v6 : Bool) (v7 : Bool) (v8 : Int) (v9 : Int) (v10 : Bool) : Option Bool :=
 ((Gt n (Al7 v3 p0.Name)).bind fun v11 => (bif v11 then ((Gt n (Al7 v10 p0.Src)).bind fun v12 => (Kp p0 n v3 v4 v5 v6 v7 v8 v9 v10 v12)) else (Kp p0 n v3 v4 v5 v6 v7 v8 v9 v10 false)))
def Dt (p0 : TS) (n : Nat) (v2 : Bool) : Option Bool :=
 (bif v2 then (Dc p0 n false false false false false (1 : Int) (8 : Int) true) else (bif (decide (p0.Op = (4 : Int))) then (Dc p0 n true true false false false (IntKind.wrap .i64 ((p0.Cols.length : Int) + (1 : Int))) (IntKind.wrap .i64 ((p0.Cols.length : Int) + (1 : Int))) true) else (bif (decide (p0.Op = (5 : Int))) then (Dc p0 n true false false false false (1 : Int) (1 : Int) true) else (bif (decide (p0.Op = (6 : Int))) then (Dc p0 n true false true true false (1 : Int) (1 : Int) true) else (bif (decide (p0.Op = (7 : Int))) then (Dc p0 n false false false true true (1 : Int) (1 : Int) false) else (bif (decide (p0.Op = (9 : Int))) then (Dc p0 n false false false false false (1 : Int) (1 : Int) false) else (bif (decide (p0.Op = (10 : Int))) then (Dc p0 n false false false false false (1 : Int) (8 : Int) false) else some false)))))))
def CX (p0 : TS) (n : Nat) (v1 : Bool) : Option Bool :=
 (bif v1 then (Dc p0 n true false false false false (1 : Int) (1 : Int) false) else (bif (decide (p0.Op = (3 : Int))) then (Dt p0 n (decide (p0.Op = (3 : Int)))) else (Dt p0 n (decide (p0.Op = (8 : Int))))))
def Eb (n : Nat) (p0 : TS) : Option Bool :=
 (bif (decide (p0.Op = (1 : Int))) then (CX p0 n (decide (p0.Op = (1 : Int)))) else (CX p0 n (decide (p0.Op = (2 : Int)))))
theorem BV1 (n : Nat) (p0 : TS) {r : Bool} (hr : Eb n p0 = some r) {K : PV → List Content → Prop} (h : K (.d (.bool r)) st) : Aw PR AF9 [(.agg [(.d (.int .i64 p0.Op)), (.d (.str p0.Name)), (.d (.str p0.Src)), (.d (.int .i64 p0.N)), (.d (.sl (List.map rS p0.Cols))), (.d (.sl (List.map TE.row p0.Exprs))), (.d (.sl (List.map TS.row p0.Body))), (.d (.sl (List.map TS.row p0.Else)))])] st K := by
 refine Aw.of BG1 (Nat.le_of_ble_eq_true rfl) fun hwf => ?_
 rw [CE]
 refine AS ?_
 unfold Bd8
 rw [Eb] at hr
 refine Al (Af ?_)
 unfold AV4
 refine GV (k := 0) rfl rfl (e_t eh) Bi (by rfl) ?_
 refine Ab e_c (Aa (Ae (Al (Af ?_))))
 unfold AV8
 refine Ab e_c (Ab e_c (Ab e_c (Ab e_c (Ab e_c (Aa ?_)))))
 refine Ae (Al (Af ?_))
 unfold AW5
 refine Ab e_c (Ab e_c (Aa (Ae (Al (Af ?_)))))
 unfold AV6
 refine Ab e_c (Aa (Ae ?_))
 refine BL (fun f st' => ∃ (v3 : Bool), ∃ (v4 : Bool), ∃ (v5 : Bool), ∃ (v6 : Bool), ∃ (v7 : Bool), ∃ (v8 : Int), ∃ (v9 : Int), ∃ (v10 : Bool), Dc p0 n v3 v4 v5 v6 v7 v8 v9 v10 = some r ∧ f 1 = (.ptr (st.length + 0) 0) ∧ f 3 = (.d (.bool v3)) ∧ f 4 = (.d (.bool v4)) ∧ f 5 = (.d (.bool v5)) ∧ f 6 = (.d (.bool v6)) ∧ f 7 = (.d (.bool v7)) ∧ f 8 = (.d (.int .i64 v8)) ∧ f 9 = (.d (.int .i64 v9)) ∧ f 10 = (.d (.bool v10)) ∧ st' = st ++ [(.box [(.d (.int .i64 p0.Op)), (.d (.str p0.Name)), (.d (.str p0.Src)), (.d (.int .i64 p0.N)), (.d (.sl (List.map rS p0.Cols))), (.d (.sl (List.map TE.row p0.Exprs))), (.d (.sl (List.map TS.row p0.Body))), (.d (.sl (List.map TS.row p0.Else)))])]) ?_ ?_
 · refine Al (Af ?_)
   unfold AZ1
   refine AA (e_t (Ak rfl (em rfl eh))) (by rfl) ?_
   refine Ao (e_t eh) (gx 0 rfl) (by rfl) ?_
   refine Aa (Ae ?_)
   refine A3 ?_
   refine BL (fun f st' => ∃ (v1 : Bool), CX p0 n v1 = some r ∧ f 1 = (.ptr (st.length + 0) 0) ∧ f 3 = (.d (.bool false)) ∧ f 4 = (.d (.bool false)) ∧ f 5 = (.d (.bool false)) ∧ f 6 = (.d (.bool false)) ∧ f 7 = (.d (.bool false)) ∧ f 8 = (.d (.int .i64 (1 : Int))) ∧ f 9 = (.d (.int .i64 (1 : Int))) ∧ f 10 = (.d (.bool true)) ∧ f 12 = (.d (.int .i64 p0.Op)) ∧ f 13 = (.d (.bool v1)) ∧ st' = st ++ [(.box [(.d (.int .i64 p0.Op)), (.d (.str p0.Name)), (.d (.str p0.Src)), (.d (.int .i64 p0.N)), (.d (.sl (List.map rS p0.Cols))), (.d (.sl (List.map TE.row p0.Exprs))), (.d (.sl (List.map TS.row p0.Body))), (.d (.sl (List.map TS.row p0.Else)))])]) ?_ ?_
   · refine Al (Af ?_)
     unfold AY2
     refine Ap (e_t eh) e_c (Ci ?_)
     refine Ab (e_t eh) (Aa (Ae ?_))
     refine AB (e_t eh) hr (fun hr => ?_) (fun hr => ?_)
     · refine AM (Ae ?_)
       exact ⟨(decide (p0.Op = (1 : Int))), hr, (Ak rfl (Ad rfl (em rfl eh))), (Ak rfl (Ac rfl (em rfl eh))), (Ak rfl (Ac rfl eh)), (Ak rfl (em rfl eh)), (Ad rfl (Ad rfl eh)), (Ad rfl (Ac rfl (em rfl eh))), (Ad rfl (Ac rfl eh)), (Ad rfl (em rfl eh)), (Ad rfl eh), (Ac rfl eh), eh, rfl⟩
     refine Af ?_
     unfold AR8
     refine Ap (e_t (Ac rfl eh)) e_c (Ci ?_)
     refine Ab (e_t eh) (Aa (Ae ?_))
     exact ⟨(decide (p0.Op = (2 : Int))), hr, (Ak rfl (Ad rfl (Ac rfl (em rfl eh)))), (Ak rfl (Ad rfl (em rfl eh))), (Ak rfl (Ad rfl eh)), (Ak rfl (Ac rfl (em rfl eh))), (Ak rfl (Ac rfl eh)), (Ak rfl (em rfl eh)), (Ad rfl (Ad rfl eh)), (Ad rfl (Ac rfl (em rfl eh))), (Ad rfl (Ac rfl eh)), (Ad rfl eh), eh, rfl⟩
   rintro f st' ⟨v1, hr, h1, h3, h4, h5, h6, h7, h8, h9, h10, h12, h13, rfl⟩
   rw [CX] at hr
   refine AB (e_t h13) hr (fun hr => ?_) (fun hr => ?_)
   · refine Af ?_
     unfold AU5
     refine Ab e_c (Ab e_c (Aa ?_))
     refine BQ ?_
     refine Ae ?_
     exact ⟨true, false, false, false, false, (1 : Int), (1 : Int), false, hr, (Ac rfl h1), (em rfl eh), (Ac rfl h4), (Ac rfl h5), (Ac rfl h6), (Ac rfl h7), (Ac rfl h8), (Ac rfl h9), eh, rfl⟩
   refine BL (fun f st' => ∃ (v2 : Bool), Dt p0 n v2 = some r ∧ f 1 = (.ptr (st.length + 0) 0) ∧ f 3 = (.d (.bool false)) ∧ f 4 = (.d (.bool false)) ∧ f 5 = (.d (.bool false)) ∧ f 6 = (.d (.bool false)) ∧ f 7 = (.d (.bool false)) ∧ f 8 = (.d (.int .i64 (1 : Int))) ∧ f 9 = (.d (.int .i64 (1 : Int))) ∧ f 10 = (.d (.bool true)) ∧ f 12 = (.d (.int .i64 p0.Op)) ∧ f 16 = (.d (.bool v2)) ∧ st' = st ++ [(.box [(.d (.int .i64 p0.Op)), (.d (.str p0.Name)), (.d (.str p0.Src)), (.d (.int .i64 p0.N)), (.d (.sl (List.map rS p0.Cols))), (.d (.sl (List.map TE.row p0.Exprs))), (.d (.sl (List.map TS.row p0.Body))), (.d (.sl (List.map TS.row p0.Else)))])]) ?_ ?_
   · refine Al (Af ?_)
     unfold AS2
     refine Ap (e_t h12) e_c (Ci ?_)
     refine Ab (e_t eh) (Aa (Ae ?_))
     refine AB (e_t eh) hr (fun hr => ?_) (fun hr => ?_)
     · refine AM (Ae ?_)
       exact ⟨(decide (p0.Op = (3 : Int))), hr, (Ac rfl h1), (Ac rfl h3), (Ac rfl h4), (Ac rfl h5), (Ac rfl h6), (Ac rfl h7), (Ac rfl h8), (Ac rfl h9), (Ac rfl h10), (Ac rfl h12), eh, rfl⟩
     refine Af ?_
     unfold AV1
     refine Ap (e_t (Ac rfl h12)) e_c (Ci ?_)
     refine Ab (e_t eh) (Aa (Ae ?_))
     exact ⟨(decide (p0.Op = (8 : Int))), hr, (Ad rfl h1), (Ad rfl h3), (Ad rfl h4), (Ad rfl h5), (Ad rfl h6), (Ad rfl h7), (Ad rfl h8), (Ad rfl h9), (Ad rfl h10), (Ad rfl h12), eh, rfl⟩
   rintro f st' ⟨v2, hr, h1, h3, h4, h5, h6, h7, h8, h9, h10, h12, h16, rfl⟩
   rw [Dt] at hr
   refine AB (e_t h16) hr (fun hr => ?_) (fun hr => ?_)
   · refine Af ?_
     unfold AF4
     refine Ab e_c (Aa ?_)
     refine BQ ?_
     refine Ae ?_
     exact ⟨false, false, false, false, false, (1 : Int), (8 : Int), true, hr, (em rfl h1), (em rfl h3), (em rfl h4), (em rfl h5), (em rfl h6), (em rfl h7), (em rfl h8), eh, (em rfl h10), rfl⟩
   refine Al (Af ?_)
   unfold AE5
   refine Ap (e_t h12) e_c (Ci ?_)
   refine Ab (e_t eh) (Aa (Ae ?_))
   refine AB (e_t eh) hr (fun hr => ?_) (fun hr => ?_)
   · refine Al (Af ?_)
     unfold AB0
     refine Ab e_c (Ab e_c (Aa (Ae ?_)))
     refine EQ (k := 1) rfl rfl ?_
     unfold AA6
     refine AA (e_t (Ad rfl h1)) (by rfl) ?_
     refine Ao (e_t eh) (gx 0 rfl) (by rfl) ?_
     refine Bc (row := rS) (AN (e_t eh) Bo) ?_
     refine Ap (e_t eh) e_c (B4 ?_)
     refine AA (e_t (Ad rfl (Ad rfl h1))) (by rfl) ?_
     refine Ao (e_t eh) (gx 0 rfl) (by rfl) ?_
     refine Bc (row := rS) (AN (e_t eh) Bo) ?_
     refine Ap (e_t eh) e_c (B4 ?_)
     refine Ab (e_t (Ad rfl eh)) (Ab (e_t (em rfl eh)) (Aa ?_))
     refine BQ ?_
     refine Ae ?_
     exact ⟨true, true, false, false, false, (IntKind.wrap .i64 ((p0.Cols.length : Int) + (1 : Int))), (IntKind.wrap .i64 ((p0.Cols.length : Int) + (1 : Int))), true, hr, (Ak rfl (Ad rfl (Ac rfl h1))), (Ak rfl (Ac rfl (em rfl eh))), (Ak rfl (Ac rfl eh)), (Ak rfl (Ad rfl (Ac rfl h5))), (Ak rfl (Ad rfl (Ac rfl h6))), (Ak rfl (Ad rfl (Ac rfl h7))), (em rfl eh), eh, (Ak rfl (Ad rfl (Ac rfl h10))), rfl⟩
   refine Al (Af ?_)
   unfold Az5
   refine Ap (e_t (Ac rfl h12)) e_c (Ci ?_)
   refine Ab (e_t eh) (Aa (Ae ?_))
   refine AB (e_t eh) hr (fun hr => ?_) (fun hr => ?_)
   · refine Af ?_
     unfold AJ7
     refine Ab e_c (Aa ?_)
     refine BQ ?_
     refine Ae ?_
     exact ⟨true, false, false, false, false, (1 : Int), (1 : Int), true, hr, (Ad rfl (em rfl h1)), eh, (Ad rfl (em rfl h4)), (Ad rfl (em rfl h5)), (Ad rfl (em rfl h6)), (Ad rfl (em rfl h7)), (Ad rfl (em rfl h8)), (Ad rfl (em rfl h9)), (Ad rfl (em rfl h10)), rfl⟩
   refine Al (Af ?_)
   unfold AE1
   refine Ap (e_t (Ad rfl h12)) e_c (Ci ?_)
   refine Ab (e_t eh) (Aa (Ae ?_))
   refine AB (e_t eh) hr (fun hr => ?_) (fun hr => ?_)
   · refine Af ?_
     unfold AN0
     refine Ab e_c (Ab e_c (Ab e_c (Aa ?_)))
     refine BQ ?_
     refine Ae ?_
     exact ⟨true, false, true, true, false, (1 : Int), (1 : Int), true, hr, (Ak rfl (em rfl h1)), (Ac rfl eh), (Ak rfl (em rfl h4)), (em rfl eh), eh, (Ak rfl (em rfl h7)), (Ak rfl (em rfl h8)), (Ak rfl (em rfl h9)), (Ak rfl (em rfl h10)), rfl⟩
   refine Al (Af ?_)
   unfold AH5
   refine Ap (e_t (Ad rfl (Ac rfl h12))) e_c (Ci ?_)
   refine Ab (e_t eh) (Aa (Ae ?_))
   refine AB (e_t eh) hr (fun hr => ?_) (fun hr => ?_)
   · refine Af ?_
     unfold AE4
     refine Ab e_c (Ab e_c (Ab e_c (Aa ?_)))
     refine BQ ?_
     refine Ae ?_
     exact ⟨false, false, false, true, true, (1 : Int), (1 : Int), false, hr, (Ak rfl (Ac rfl (em rfl h1))), (Ak rfl (Ac rfl (em rfl h3))), (Ak rfl (Ac rfl (em rfl h4))), (Ak rfl (Ac rfl (em rfl h5))), (Ac rfl eh), (em rfl eh), (Ak rfl (Ac rfl (em rfl h8))), (Ak rfl (Ac rfl (em rfl h9))), eh, rfl⟩
   refine Al (Af ?_)
   unfold AJ1
   refine Ap (e_t (Ad rfl (Ad rfl h12))) e_c (Ci ?_)
   refine Ab (e_t eh) (Aa (Ae ?_))
   refine AB (e_t eh) hr (fun hr => ?_) (fun hr => ?_)
   · refine Af ?_
     unfold AK1
     refine Ab e_c (Aa ?_)
     refine BQ ?_
     refine Ae ?_
     exact ⟨false, false, false, false, false, (1 : Int), (1 : Int), false, hr, (Ak rfl (Ac rfl (em rfl h1))), (Ak rfl (Ac rfl (em rfl h3))), (Ak rfl (Ac rfl (em rfl h4))), (Ak rfl (Ac rfl (em rfl h5))), (Ak rfl (Ac rfl (em rfl h6))), (Ak rfl (Ac rfl (em rfl h7))), (Ak rfl (Ac rfl (em rfl h8))), (Ak rfl (Ac rfl (em rfl h9))), eh, rfl⟩
   refine Al (Af ?_)
   unfold AN4
   refine Ap (e_t (Ak rfl (Ac rfl h12))) e_c (Ci ?_)
   refine Ab (e_t eh) (Aa (Ae ?_))
   refine AB (e_t eh) hr (fun hr => ?_) (fun hr => ?_)
   · refine Af ?_
     unfold Ay4
     refine Ab e_c (Ab e_c (Aa ?_))
     refine BQ ?_
     refine Ae ?_
     exact ⟨false, false, false, false, false, (1 : Int), (8 : Int), false, hr, (Ak rfl (Ad rfl (Ac rfl h1))), (Ak rfl (Ad rfl (Ac rfl h3))), (Ak rfl (Ad rfl (Ac rfl h4))), (Ak rfl (Ad rfl (Ac rfl h5))), (Ak rfl (Ad rfl (Ac rfl h6))), (Ak rfl (Ad rfl (Ac rfl h7))), (Ak rfl (Ad rfl (Ac rfl h8))), (em rfl eh), eh, rfl⟩
   refine Al (Af ?_)
   unfold AL8
   refine Ab e_c (Aa (Ae (AH ?_)))
   refine Bw ?_
   refine Ay ?_
   cases hr
   exact A5 (AE eh AG) (AK AF v_d) (As hwf) h
 rintro f st' ⟨v3, v4, v5, v6, v7, v8, v9, v10, hr, h1, h3, h4, h5, h6, h7, h8, h9, h10, rfl⟩
 rw [Dc] at hr
 refine Al (Af ?_)
 unfold AA2
 refine Ba (fun f st' => ∃ (v13 : Bool), Kp p0 n v3 v4 v5 v6 v7 v8 v9 v10 v13 = some r ∧ f 1 = (.ptr (st.length + 0) 0) ∧ f 3 = (.d (.bool v3)) ∧ f 4 = (.d (.bool v4)) ∧ f 5 = (.d (.bool v5)) ∧ f 6 = (.d (.bool v6)) ∧ f 7 = (.d (.bool v7)) ∧ f 8 = (.d (.int .i64 v8)) ∧ f 9 = (.d (.int .i64 v9)) ∧ f 10 = (.d (.bool v10)) ∧ f 50 = (.d (.bool v13)) ∧ st' = st ++ [(.box [(.d (.int .i64 p0.Op)), (.d (.str p0.Name)), (.d (.str p0.Src)), (.d (.int .i64 p0.N)), (.d (.sl (List.map rS p0.Cols))), (.d (.sl (List.map TE.row p0.Exprs))), (.d (.sl (List.map TS.row p0.Body))), (.d (.sl (List.map TS.row p0.Else)))])]) ?_ ?_
 · unfold Ad5
   refine Ab (e_t h3) ?_
   refine AA (e_t (em rfl h1)) (by rfl) ?_
   refine Ao (e_t eh) (gx 0 rfl) (by rfl) ?_
   refine AY (Az (e_t (Ac rfl eh)) AF (Az (e_t eh) AF A1)) ?_
   refine BU2 v3 p0.Name rfl ?_
   obtain ⟨v11, hc_v11, hr⟩ := bind_some hr
   refine AY (Az (e_t eh) AF A1) ?_
   refine Ro n (Al7 v3 p0.Name) hc_v11 ?_
   refine Ab (e_t eh) ?_
   refine Ar eh hr (fun hr => ?_) (fun hr => ?_)
   rotate_left
   · refine Ah eh (Ah (em rfl eh) (Ah (Ac rfl eh) (Ah (Ac rfl (em rfl eh)) (Ah (Ad rfl eh) (An (e_t (Ad rfl (em rfl eh))) e_c ?_)))))
     refine Aa ?_
     exact ⟨false, hr, (Ak rfl (Ad rfl (em rfl h1))), (Ak rfl (Ad rfl (em rfl h3))), (Ak rfl (Ad rfl (em rfl h4))), (Ak rfl (Ad rfl (em rfl h5))), (Ak rfl (Ad rfl (em rfl h6))), (Ak rfl (Ad rfl (em rfl h7))), (Ak rfl (Ad rfl (em rfl h8))), (Ak rfl (Ad rfl (em rfl h9))), (Ak rfl (Ad rfl (em rfl h10))), eh, rfl⟩
   refine Aj eh (Ab (e_t (Ad rfl (Ac rfl (em rfl h10)))) (Aj (em rfl eh) ?_))
   refine AA (e_t (Ad rfl (Ad rfl h1))) (by rfl) ?_
   refine Aj (Ac rfl eh) ?_
   refine Ao (e_t eh) (gx 0 rfl) (by rfl) ?_
   refine Aj (Ac rfl (em rfl eh)) ?_
   refine AY (Az (e_t (Ac rfl eh)) AF (Az (e_t eh) AF A1)) ?_
   refine BU2 v10 p0.Src rfl ?_
   refine Aj (Ad rfl eh) ?_
   obtain ⟨v12, hc_v12, hr⟩ := bind_some hr
   refine AY (Az (e_t eh) AF A1) ?_
   refine Ro n (Al7 v10 p0.Src) hc_v12 ?_
   refine Am (e_t (Ad rfl (em rfl eh))) (e_t eh) (Aa ?_)
   exact ⟨v12, hr, (Ak rfl (Ad rfl (em rfl h1))), (Ak rfl (Ad rfl (em rfl h3))), (Ak rfl (Ad rfl (em rfl h4))), (Ak rfl (Ad rfl (em rfl h5))), (Ak rfl (Ad rfl (em rfl h6))), (Ak rfl (Ad rfl (em rfl h7))), (Ak rfl (Ad rfl (em rfl h8))), (Ak rfl (Ad rfl (em rfl h9))), (Ak rfl (Ad rfl (em rfl h10))), eh, rfl⟩
 rintro f st' ⟨v13, hr, h1, h3, h4, h5, h6, h7, h8, h9, h10, h50, rfl⟩
 rw [Kp] at hr
 refine Ba (fun f st' => ∃ (v14 : Bool), H7 p0 n v4 v5 v6 v7 v8 v9 v10 v14 = some r ∧ f 1 = (.ptr (st.length + 0) 0) ∧ f 4 = (.d (.bool v4)) ∧ f 5 = (.d (.bool v5)) ∧ f 6 = (.d (.bool v6)) ∧ f 7 = (.d (.bool v7)) ∧ f 8 = (.d (.int .i64 v8)) ∧ f 9 = (.d (.int .i64 v9)) ∧ f 10 = (.d (.bool v10)) ∧ f 58 = (.d (.bool v14)) ∧ st' = st ++ [(.box [(.d (.int .i64 p0.Op)), (.d (.str p0.Name)), (.d (.str p0.Src)), (.d (.int .i64 p0.N)), (.d (.sl (List.map rS p0.Cols))), (.d (.sl (List.map TE.row p0.Exprs))), (.d (.sl (List.map TS.row p0.Body))), (.d (.sl (List.map TS.row p0.Else)))])]) ?_ ?_
 · unfold Ah7
   refine Ab (e_t h50) ?_
   refine Ar eh hr (fun hr => ?_) (fun hr => ?_)
   rotate_left
   · refine Ah eh (Ah (em rfl eh) ?_)
     refine A6 eh ?_
     refine A6 (em rfl eh) ?_
     refine A6 (Ac rfl eh) ?_
     refine Ah (Ad rfl (em rfl eh)) (An (e_t (Ad rfl (Ac rfl eh))) e_c (Aa ?_))
     exact ⟨false, hr, (Ak rfl (em rfl h1)), (Ak rfl (em rfl h4)), (Ak rfl (em rfl h5)), (Ak rfl (em rfl h6)), (Ak rfl (em rfl h7)), (Ak rfl (em rfl h8)), (Ak rfl (em rfl h9)), (Ak rfl (em rfl h10)), eh, rfl⟩
   refine Aj eh (Ab (e_t (Ac rfl h3)) (Aj (em rfl eh) (Ab (e_t eh) ?_)))
   refine Ar eh hr (fun hr => ?_) (fun hr => ?_)
   · refine Ah eh (Ah (em rfl eh) (Ah (Ac rfl eh) (Aj (Ad rfl (Ac rfl eh)) (Am (e_t (Ac rfl (em rfl eh))) e_c (Am (e_t (Ad rfl (Ac rfl (em rfl eh)))) (e_t eh) ?_)))))
     refine Aa ?_
     exact ⟨true, hr, (Ak rfl (Ac rfl h1)), (Ak rfl (Ac rfl h4)), (Ak rfl (Ac rfl h5)), (Ak rfl (Ac rfl h6)), (Ak rfl (Ac rfl h7)), (Ak rfl (Ac rfl h8)), (Ak rfl (Ac rfl h9)), (Ak rfl (Ac rfl h10)), eh, rfl⟩
   refine Aj eh ?_
   refine AA (e_t (Ad rfl (em rfl h1))) (by rfl) ?_
   refine Aj (em rfl eh) ?_
   refine Ao (e_t eh) (gx 0 rfl) (by rfl) ?_
   refine Aj (Ac rfl eh) ?_
   refine Ap (e_t eh) e_c (Do ?_)
   refine Aj (Ad rfl (Ac rfl eh)) (An (e_t (Ac rfl (em rfl eh))) (e_t eh) (Am (e_t (Ad rfl (Ac rfl (em rfl eh)))) (e_t eh) (Aa ?_)))
   exact ⟨(decide (p0.Name = (⟨#[]⟩ : ByteArray))), hr, (Ak rfl (Ac rfl h1)), (Ak rfl (Ac rfl h4)), (Ak rfl (Ac rfl h5)), (Ak rfl (Ac rfl h6)), (Ak rfl (Ac rfl h7)), (Ak rfl (Ac rfl h8)), (Ak rfl (Ac rfl h9)), (Ak rfl (Ac rfl h10)), eh, rfl⟩
 rintro f st' ⟨v14, hr, h1, h4, h5, h6, h7, h8, h9, h10, h58, rfl⟩
 rw [H7] at hr
 refine Ba (fun f st' => ∃ (v15 : Bool), H5 p0 n v4 v5 v6 v7 v8 v9 v15 = some r ∧ f 1 = (.ptr (st.length + 0) 0) ∧ f 4 = (.d (.bool v4)) ∧ f 5 = (.d (.bool v5)) ∧ f 6 = (.d (.bool v6)) ∧ f 7 = (.d (.bool v7)) ∧ f 8 = (.d (.int .i64 v8)) ∧ f 9 = (.d (.int .i64 v9)) ∧ f 66 = (.d (.bool v15)) ∧ st' = st ++ [(.box [(.d (.int .i64 p0.Op)), (.d (.str p0.Name)), (.d (.str p0.Src)), (.d (.int .i64 p0.N)), (.d (.sl (List.map rS p0.Cols))), (.d (.sl (List.map TE.row p0.Exprs))), (.d (.sl (List.map TS.row p0.Body))), (.d (.sl (List.map TS.row p0.Else)))])]) ?_ ?_
 · unfold Al3
   refine Ab (e_t h58) ?_
   refine Ar eh hr (fun hr => ?_) (fun hr => ?_)
   rotate_left
   · refine Ah eh (Ah (em rfl eh) ?_)
     refine A6 eh ?_
     refine A6 (em rfl eh) ?_
     refine A6 (Ac rfl eh) ?_
     refine Ah (Ad rfl (em rfl eh)) (An (e_t (Ad rfl (Ac rfl eh))) e_c (Aa ?_))
     exact ⟨false, hr, (Ak rfl (em rfl h1)), (Ak rfl (em rfl h4)), (Ak rfl (em rfl h5)), (Ak rfl (em rfl h6)), (Ak rfl (em rfl h7)), (Ak rfl (em rfl h8)), (Ak rfl (em rfl h9)), eh, rfl⟩
   refine Aj eh (Ab (e_t (Ac rfl h10)) (Aj (em rfl eh) (Ab (e_t eh) ?_)))
   refine Ar eh hr (fun hr => ?_) (fun hr => ?_)
   · refine Ah eh (Ah (em rfl eh) (Ah (Ac rfl eh) (Aj (Ad rfl (Ac rfl eh)) (Am (e_t (Ac rfl (em rfl eh))) e_c (Am (e_t (Ad rfl (Ac rfl (em rfl eh)))) (e_t eh) ?_)))))
     refine Aa ?_
     exact ⟨true, hr, (Ak rfl (Ac rfl h1)), (Ak rfl (Ac rfl h4)), (Ak rfl (Ac rfl h5)), (Ak rfl (Ac rfl h6)), (Ak rfl (Ac rfl h7)), (Ak rfl (Ac rfl h8)), (Ak rfl (Ac rfl h9)), eh, rfl⟩
   refine Aj eh ?_
   refine AA (e_t (Ad rfl (em rfl h1))) (by rfl) ?_
   refine Aj (em rfl eh) ?_
   refine Ao (e_t eh) (gx 0 rfl) (by rfl) ?_
   refine Aj (Ac rfl eh) ?_
   refine Ap (e_t eh) e_c (Do ?_)
   refine Aj (Ad rfl (Ac rfl eh)) (An (e_t (Ac rfl (em rfl eh))) (e_t eh) (Am (e_t (Ad rfl (Ac rfl (em rfl eh)))) (e_t eh) (Aa ?_)))
   exact ⟨(decide (p0.Src = (⟨#[]⟩ : ByteArray))), hr, (Ak rfl (Ac rfl h1)), (Ak rfl (Ac rfl h4)), (Ak rfl (Ac rfl h5)), (Ak rfl (Ac rfl h6)), (Ak rfl (Ac rfl h7)), (Ak rfl (Ac rfl h8)), (Ak rfl (Ac rfl h9)), eh, rfl⟩
 rintro f st' ⟨v15, hr, h1, h4, h5, h6, h7, h8, h9, h66, rfl⟩
 rw [H5] at hr
 refine Ba (fun f st' => ∃ (v18 : Bool), De p0 v5 v6 v7 v8 v9 v18 = some r ∧ f 1 = (.ptr (st.length + 0) 0) ∧ f 5 = (.d (.bool v5)) ∧ f 6 = (.d (.bool v6)) ∧ f 7 = (.d (.bool v7)) ∧ f 8 = (.d (.int .i64 v8)) ∧ f 9 = (.d (.int .i64 v9)) ∧ f 95 = (.d (.bool v18)) ∧ st' = st ++ [(.box [(.d (.int .i64 p0.Op)), (.d (.str p0.Name)), (.d (.str p0.Src)), (.d (.int .i64 p0.N)), (.d (.sl (List.map rS p0.Cols))), (.d (.sl (List.map TE.row p0.Exprs))), (.d (.sl (List.map TS.row p0.Body))), (.d (.sl (List.map TS.row p0.Else)))])]) ?_ ?_
 rotate_left
 · rintro f st' ⟨v18, hr, h1, h5, h6, h7, h8, h9, h95, rfl⟩
   rw [De] at hr
   refine Ba (fun f st' => ∃ (v19 : Bool), Fa p0 v6 v7 v8 v9 v19 = some r ∧ f 1 = (.ptr (st.length + 0) 0) ∧ f 6 = (.d (.bool v6)) ∧ f 7 = (.d (.bool v7)) ∧ f 8 = (.d (.int .i64 v8)) ∧ f 9 = (.d (.int .i64 v9)) ∧ f 112 = (.d (.bool v19)) ∧ st' = st ++ [(.box [(.d (.int .i64 p0.Op)), (.d (.str p0.Name)), (.d (.str p0.Src)), (.d (.int .i64 p0.N)), (.d (.sl (List.map rS p0.Cols))), (.d (.sl (List.map TE.row p0.Exprs))), (.d (.sl (List.map TS.row p0.Body))), (.d (.sl (List.map TS.row p0.Else)))])]) ?_ ?_
   · unfold Aj3
     refine Ab (e_t h95) ?_
     refine Ar eh hr (fun hr => ?_) (fun hr => ?_)
     rotate_left
     · refine Ah eh (Ah (em rfl eh) ?_)
       refine A6 eh ?_
       refine A6 (em rfl eh) ?_
       refine A6 (Ac rfl eh) ?_
       refine Ah (Ad rfl (em rfl eh)) (Ah (Ad rfl (Ac rfl eh)) ?_)
       refine A6 eh ?_
       refine A6 (em rfl eh) ?_
       refine A6 (Ac rfl eh) ?_
       refine A6 eh ?_
       refine A6 (em rfl eh) ?_
       refine A6 (Ac rfl eh) ?_
       refine A6 (Ad rfl (Ac rfl eh)) ?_
       refine Ah (Ak rfl (Ad rfl (Ac rfl eh))) (An (e_t (Ak rfl (Ad rfl (Ac rfl (em rfl eh))))) e_c (Aa ?_))
       exact ⟨false, hr, (Ai rfl (Ac rfl h1)), (Ai rfl (Ac rfl h6)), (Ai rfl (Ac rfl h7)), (Ai rfl (Ac rfl h8)), (Ai rfl (Ac rfl h9)), eh, rfl⟩
     refine Aj eh (Ab (e_t (Ac rfl h5)) (Aj (em rfl eh) (Ab (e_t eh) ?_)))
     refine Ar eh hr (fun hr => ?_) (fun hr => ?_)
     rotate_left
     · refine Ah eh (Ah (em rfl eh) (Ah (Ac rfl eh) (Aj (Ad rfl (Ac rfl eh)) (An (e_t (Ac rfl (em rfl eh))) e_c (Aj (Ad rfl (Ac rfl (em rfl eh))) ?_)))))
       refine Ab (e_t eh) (Aj eh (Ab (e_t (Ak rfl (Ac rfl h5))) (Aj (em rfl eh) (CN (e_t eh) (Aj (Ac rfl eh) ?_)))))
       refine Ab (e_t eh) ?_
       refine Ar eh hr (fun hr => ?_) (fun hr => ?_)
       rotate_left
       · refine Ah eh (Ah (em rfl eh) (Ah (Ac rfl eh) (Aj (Ad rfl (Ac rfl (em rfl eh))) (An (e_t (Ac rfl (em rfl eh))) e_c (Aj (Ak rfl (Ad rfl (Ad rfl eh))) ?_)))))
         refine An (e_t (Ad rfl (Ad rfl eh))) (e_t eh) (Am (e_t (Ai rfl (em rfl eh))) (e_t eh) (Aa ?_))
         exact ⟨false, hr, (Ai rfl (Ad rfl h1)), (Ai rfl (Ad rfl h6)), (Ai rfl (Ad rfl h7)), (Ai rfl (Ad rfl h8)), (Ai rfl (Ad rfl h9)), eh, rfl⟩
       refine Aj eh ?_
       refine AA (e_t (Ak rfl (Ad rfl (Ac rfl h1)))) (by rfl) ?_
       refine Aj (em rfl eh) ?_
       refine Ao (e_t eh) (gx 0 rfl) (by rfl) ?_
       refine Aj (Ac rfl eh) ?_
       refine Ap (e_t eh) e_c (Ci ?_)
       refine Aj (Ad rfl (Ac rfl (em rfl eh))) (Am (e_t (Ac rfl (em rfl eh))) (e_t eh) (Aj (Ak rfl (Ad rfl (Ad rfl eh))) (An (e_t (Ad rfl (Ad rfl eh))) (e_t eh) (Am (e_t (Ai rfl (em rfl eh))) (e_t eh) (Aa ?_)))))
       exact ⟨(decide (p0.N = (0 : Int))), hr, (Ai rfl (Ad rfl h1)), (Ai rfl (Ad rfl h6)), (Ai rfl (Ad rfl h7)), (Ai rfl (Ad rfl h8)), (Ai rfl (Ad rfl h9)), eh, rfl⟩
     refine Aj eh ?_
     refine AA (e_t (Ad rfl (em rfl h1))) (by rfl) ?_
     refine Aj (em rfl eh) ?_
     refine Ao (e_t eh) (gx 0 rfl) (by rfl) ?_
     refine Aj (Ac rfl eh) ?_
     refine AY (Az (e_t eh) AF (Az e_c AF (Az e_c AF A1))) ?_
     refine VJ p0.N (0 : Int) (1000 : Int) rfl ?_
     refine Aj (Ad rfl (Ac rfl eh)) (Am (e_t (Ac rfl (em rfl eh))) (e_t eh) (Aj (Ad rfl (Ac rfl (em rfl eh))) (Ab (e_t eh) ?_)))
     refine Ar eh hr (fun hr => ?_) (fun hr => ?_)
     · refine Ah eh (Ah (em rfl eh) (Ah (Ac rfl eh) ?_))
       refine A6 eh ?_
       refine A6 (em rfl eh) ?_
       refine A6 (Ac rfl eh) ?_
       refine Ah (Ad rfl (Ac rfl eh)) (Aj (Ak rfl (Ad rfl (Ad rfl eh))) (Am (e_t (Ad rfl (Ac rfl (em rfl eh)))) e_c (Am (e_t (Ai rfl (em rfl eh))) (e_t eh) (Aa ?_))))
       exact ⟨true, hr, (Ai rfl (Ad rfl h1)), (Ai rfl (Ad rfl h6)), (Ai rfl (Ad rfl h7)), (Ai rfl (Ad rfl h8)), (Ai rfl (Ad rfl h9)), eh, rfl⟩
     refine Aj eh (Ab (e_t (Ak rfl (Ac rfl (em rfl h5)))) (Aj (em rfl eh) (CN (e_t eh) (Aj (Ac rfl eh) (Ab (e_t eh) ?_)))))
     refine Ar eh hr (fun hr => ?_) (fun hr => ?_)
     rotate_left
     · refine Ah eh (Ah (em rfl eh) (Ah (Ac rfl eh) (Aj (Ad rfl (Ac rfl (em rfl eh))) (An (e_t (Ac rfl (em rfl eh))) e_c (Aj (Ai rfl (em rfl eh)) ?_)))))
       refine An (e_t (Ad rfl (Ad rfl eh))) (e_t eh) (Am (e_t (Ai rfl (Ac rfl eh))) (e_t eh) (Aa ?_))
       exact ⟨false, hr, (Ai rfl (Ad rfl (em rfl h1))), (Ai rfl (Ad rfl (em rfl h6))), (Ai rfl (Ad rfl (em rfl h7))), (Ai rfl (Ad rfl (em rfl h8))), (Ai rfl (Ad rfl (em rfl h9))), eh, rfl⟩
     refine Aj eh ?_
     refine AA (e_t (Ak rfl (Ad rfl (Ac rfl (em rfl h1))))) (by rfl) ?_
     refine Aj (em rfl eh) ?_
     refine Ao (e_t eh) (gx 0 rfl) (by rfl) ?_
     refine Aj (Ac rfl eh) ?_
     refine Ap (e_t eh) e_c (Ci ?_)
     refine Aj (Ad rfl (Ac rfl (em rfl eh))) (Am (e_t (Ac rfl (em rfl eh))) (e_t eh) (Aj (Ai rfl (em rfl eh)) (An (e_t (Ad rfl (Ad rfl eh))) (e_t eh) (Am (e_t (Ai rfl (Ac rfl eh))) (e_t eh) (Aa ?_)))))
     exact ⟨(decide (p0.N = (0 : Int))), hr, (Ai rfl (Ad rfl (em rfl h1))), (Ai rfl (Ad rfl (em rfl h6))), (Ai rfl (Ad rfl (em rfl h7))), (Ai rfl (Ad rfl (em rfl h8))), (Ai rfl (Ad rfl (em rfl h9))), eh, rfl⟩
   rintro f st' ⟨v19, hr, h1, h6, h7, h8, h9, h112, rfl⟩
   rw [Fa] at hr
   refine Ba (fun f st' => ∃ (v20 : Bool), Ki p0 v6 v7 v20 = some r ∧ f 1 = (.ptr (st.length + 0) 0) ∧ f 6 = (.d (.bool v6)) ∧ f 7 = (.d (.bool v7)) ∧ f 120 = (.d (.bool v20)) ∧ st' = st ++ [(.box [(.d (.int .i64 p0.Op)), (.d (.str p0.Name)), (.d (.str p0.Src)), (.d (.int .i64 p0.N)), (.d (.sl (List.map rS p0.Cols))), (.d (.sl (List.map TE.row p0.Exprs))), (.d (.sl (List.map TS.row p0.Body))), (.d (.sl (List.map TS.row p0.Else)))])]) ?_ ?_
   · unfold Ai7
     refine Ab (e_t h112) ?_
     refine Ar eh hr (fun hr => ?_) (fun hr => ?_)
     rotate_left
     · refine Ah eh (Ah (em rfl eh) (Ah (Ac rfl eh) (Ah (Ac rfl (em rfl eh)) (Ah (Ad rfl eh) (Ah (Ad rfl (em rfl eh)) ?_)))))
       refine An (e_t (Ad rfl (Ac rfl eh))) e_c (Aa ?_)
       exact ⟨false, hr, (Ak rfl (em rfl h1)), (Ak rfl (em rfl h6)), (Ak rfl (em rfl h7)), eh, rfl⟩
     refine Aj eh ?_
     refine AA (e_t (Ac rfl h1)) (by rfl) ?_
     refine Aj (em rfl eh) ?_
     refine Ao (e_t eh) (gx 0 rfl) (by rfl) ?_
     refine Aj (Ac rfl eh) ?_
     refine Bc (row := TE.row) (AN (e_t eh) Bo) ?_
     refine Aj (Ac rfl (em rfl eh)) (Ab (e_t (Ad rfl (em rfl h8))) (Aj (Ad rfl eh) (Ab (e_t (Ad rfl (Ac rfl h9))) (Aj (Ad rfl (em rfl eh)) ?_))))
     refine AY (Az (e_t (Ac rfl eh)) AF (Az (e_t (em rfl eh)) AF (Az (e_t eh) AF A1))) ?_
     refine VJ (p0.Exprs.length : Int) v8 v9 rfl ?_
     refine Am (e_t (Ad rfl (Ac rfl eh))) (e_t eh) (Aa ?_)
     exact ⟨(CY (p0.Exprs.length : Int) v8 v9), hr, (Ak rfl (em rfl h1)), (Ak rfl (em rfl h6)), (Ak rfl (em rfl h7)), eh, rfl⟩
   rintro f st' ⟨v20, hr, h1, h6, h7, h120, rfl⟩
   rw [Ki] at hr
   refine Ba (fun f st' => ∃ (v21 : Bool), Ih p0 v7 v21 = some r ∧ f 1 = (.ptr (st.length + 0) 0) ∧ f 7 = (.d (.bool v7)) ∧ f 129 = (.d (.bool v21)) ∧ st' = st ++ [(.box [(.d (.int .i64 p0.Op)), (.d (.str p0.Name)), (.d (.str p0.Src)), (.d (.int .i64 p0.N)), (.d (.sl (List.map rS p0.Cols))), (.d (.sl (List.map TE.row p0.Exprs))), (.d (.sl (List.map TS.row p0.Body))), (.d (.sl (List.map TS.row p0.Else)))])]) ?_ ?_
   · unfold Ag6
     refine Ab (e_t h120) ?_
     refine Ar eh hr (fun hr => ?_) (fun hr => ?_)
     rotate_left
     · refine Ah eh (Ah (em rfl eh) ?_)
       refine A6 eh ?_
       refine A6 (em rfl eh) ?_
       refine A6 (Ac rfl eh) ?_
       refine A6 (Ac rfl (em rfl eh)) ?_
       refine Ah (Ad rfl (Ac rfl eh)) (An (e_t (Ad rfl (Ac rfl (em rfl eh)))) e_c (Aa ?_))
       exact ⟨false, hr, (Ak rfl (Ac rfl h1)), (Ak rfl (Ac rfl h7)), eh, rfl⟩
     refine Aj eh (Ab (e_t (Ac rfl h6)) (Aj (em rfl eh) (Ab (e_t eh) ?_)))
     refine Ar eh hr (fun hr => ?_) (fun hr => ?_)
     · refine Ah eh (Ah (em rfl eh) (Ah (Ac rfl eh) (Ah (Ac rfl (em rfl eh)) (Aj (Ad rfl (Ac rfl (em rfl eh))) (Am (e_t (Ad rfl eh)) e_c ?_)))))
       refine Am (e_t (Ad rfl (Ad rfl eh))) (e_t eh) (Aa ?_)
       exact ⟨true, hr, (Ak rfl (Ac rfl (em rfl h1))), (Ak rfl (Ac rfl (em rfl h7))), eh, rfl⟩
     refine Aj eh ?_
     refine AA (e_t (Ad rfl (em rfl h1))) (by rfl) ?_
     refine Aj (em rfl eh) ?_
     refine Ao (e_t eh) (gx 0 rfl) (by rfl) ?_
     refine Aj (Ac rfl eh) ?_
     refine Bc (row := TS.row) (AN (e_t eh) Bo) ?_
     refine Aj (Ac rfl (em rfl eh)) ?_
     refine Ap (e_t eh) e_c (Ci ?_)
     refine Aj (Ad rfl (Ac rfl (em rfl eh))) (An (e_t (Ad rfl eh)) (e_t eh) (Am (e_t (Ad rfl (Ad rfl eh))) (e_t eh) (Aa ?_)))
     exact ⟨(decide ((p0.Body.length : Int) = (0 : Int))), hr, (Ak rfl (Ac rfl (em rfl h1))), (Ak rfl (Ac rfl (em rfl h7))), eh, rfl⟩
   rintro f st' ⟨v21, hr, h1, h7, h129, rfl⟩
   rw [Ih] at hr
   refine Bh ?_
   unfold Ah8
   refine Ab (e_t h129) ?_
   refine Ar eh hr (fun hr => ?_) (fun hr => ?_)
   rotate_left
   · refine Ah eh (Ah (em rfl eh) ?_)
     refine A6 eh ?_
     refine A6 (em rfl eh) ?_
     refine A6 (Ac rfl eh) ?_
     refine A6 (Ac rfl (em rfl eh)) ?_
     refine Ah (Ad rfl (Ac rfl eh)) (An (e_t (Ad rfl (Ac rfl (em rfl eh)))) e_c (Aa ?_))
     unfold K0
     refine Ab (e_t eh) (Aa (Ae (AH ?_)))
     cases hr
     exact A5 (AE eh AG) (AK AF v_d) (As hwf) h
   refine Aj eh (Ab (e_t (Ac rfl h7)) (Aj (em rfl eh) (Ab (e_t eh) ?_)))
   refine Ar eh hr (fun hr => ?_) (fun hr => ?_)
   · refine Ah eh (Ah (em rfl eh) (Ah (Ac rfl eh) (Ah (Ac rfl (em rfl eh)) (Aj (Ad rfl (Ac rfl (em rfl eh))) (Am (e_t (Ad rfl eh)) e_c ?_)))))
     refine Am (e_t (Ad rfl (Ad rfl eh))) (e_t eh) (Aa ?_)
     unfold K0
     refine Ab (e_t eh) (Aa (Ae (AH ?_)))
     cases hr
     exact A5 (AE eh AG) (AK AF v_d) (As hwf) h
   refine Aj eh ?_
   refine AA (e_t (Ad rfl (em rfl h1))) (by rfl) ?_
   refine Aj (em rfl eh) ?_
   refine Ao (e_t eh) (gx 0 rfl) (by rfl) ?_
   refine Aj (Ac rfl eh) ?_
   refine Bc (row := TS.row) (AN (e_t eh) Bo) ?_
   refine Aj (Ac rfl (em rfl eh)) ?_
   refine Ap (e_t eh) e_c (Ci ?_)
   refine Aj (Ad rfl (Ac rfl (em rfl eh))) (An (e_t (Ad rfl eh)) (e_t eh) (Am (e_t (Ad rfl (Ad rfl eh))) (e_t eh) (Aa ?_)))
   unfold K0
   refine Ab (e_t eh) (Aa (Ae (AH ?_)))
   cases hr
   exact A5 (AE eh AG) (AK AF v_d) (As hwf) h
 unfold Ai2
 refine Ab (e_t h66) ?_
 refine Ar eh hr (fun hr => ?_) (fun hr => ?_)
 rotate_left
 · refine Ah eh (Ah (em rfl eh) ?_)
   refine A6 eh ?_
   refine A6 (em rfl eh) ?_
   refine A6 (Ac rfl eh) ?_
   refine A6 (Ac rfl (em rfl eh)) ?_
   refine Ah (Ad rfl (Ac rfl eh)) (Ah (Ad rfl (Ac rfl (em rfl eh))) ?_)
   refine A6 eh ?_
   refine A6 (em rfl eh) ?_
   refine A6 (Ac rfl eh) ?_
   refine Ah (Ak rfl (Ac rfl (em rfl eh))) (Ah (Ak rfl (Ad rfl eh)) ?_)
   refine A6 eh ?_
   refine A6 (em rfl eh) ?_
   refine A6 (Ac rfl eh) ?_
   refine Ah (Ak rfl (Ad rfl (Ad rfl eh))) (Ah (Ai rfl (em rfl eh)) ?_)
   refine A6 eh ?_
   refine A6 (em rfl eh) ?_
   refine A6 (Ac rfl eh) ?_
   refine A6 eh ?_
   refine A6 (em rfl eh) ?_
   refine A6 (Ac rfl eh) ?_
   refine A6 (Ac rfl (em rfl eh)) ?_
   refine A6 (Ad rfl (Ac rfl (em rfl eh))) ?_
   refine Ah (Ai rfl (Ak rfl (Ac rfl eh))) (An (e_t (Ai rfl (Ak rfl (Ac rfl (em rfl eh))))) e_c (Aa ?_))
   exact ⟨false, hr, (Ai rfl (Ak rfl (Ad rfl (Ac rfl h1)))), (Ai rfl (Ak rfl (Ad rfl (Ac rfl h5)))), (Ai rfl (Ak rfl (Ad rfl (Ac rfl h6)))), (Ai rfl (Ak rfl (Ad rfl (Ac rfl h7)))), (Ai rfl (Ak rfl (Ad rfl (Ac rfl h8)))), (Ai rfl (Ak rfl (Ad rfl (Ac rfl h9)))), eh, rfl⟩
 refine Aj eh (Ab (e_t (Ac rfl h4)) (Aj (em rfl eh) (Ab (e_t eh) ?_)))
 refine Ar eh hr (fun hr => ?_) (fun hr => ?_)
 rotate_left
 · refine Ah eh (Ah (em rfl eh) (Ah (Ac rfl eh) (Ah (Ac rfl (em rfl eh)) (Aj (Ad rfl (Ac rfl (em rfl eh))) (An (e_t (Ad rfl eh)) e_c ?_)))))
   refine Aj (Ad rfl (Ad rfl eh)) (Ab (e_t eh) (Ah eh (Ah (em rfl eh) (Ah (Ac rfl eh) (Aj (Ak rfl (Ad rfl eh)) ?_)))))
   refine An (e_t (Ac rfl (em rfl eh))) e_c (Aj (Ak rfl (Ad rfl (em rfl eh))) (Ab (e_t eh) (Ah eh (Ah (em rfl eh) (Ah (Ac rfl eh) ?_)))))
   refine Aj (Ai rfl (em rfl eh)) (An (e_t (Ac rfl (em rfl eh))) e_c (Aj (Ai rfl (Ac rfl eh)) (Ab (e_t eh) (Aj eh (Ab (e_t (Ai rfl (Ad rfl (em rfl h4)))) ?_)))))
   refine Aj (em rfl eh) (CN (e_t eh) (Aj (Ac rfl eh) (Ab (e_t eh) ?_)))
   refine Ar eh hr (fun hr => ?_) (fun hr => ?_)
   rotate_left
   · refine Ah eh (Ah (em rfl eh) (Ah (Ac rfl eh) (Ah (Ac rfl (em rfl eh)) (Aj (Ad rfl (Ad rfl eh)) (An (e_t (Ad rfl eh)) e_c ?_)))))
     refine Aj (Ai rfl (Ak rfl (Ad rfl eh))) (An (e_t (Ak rfl (em rfl eh))) (e_t eh) (Am (e_t (Ai rfl (Ak rfl (Ad rfl (em rfl eh))))) (e_t eh) (Aa ?_)))
     exact ⟨false, hr, (Ai rfl (Ak rfl (Ad rfl (Ad rfl h1)))), (Ai rfl (Ak rfl (Ad rfl (Ad rfl h5)))), (Ai rfl (Ak rfl (Ad rfl (Ad rfl h6)))), (Ai rfl (Ak rfl (Ad rfl (Ad rfl h7)))), (Ai rfl (Ak rfl (Ad rfl (Ad rfl h8)))), (Ai rfl (Ak rfl (Ad rfl (Ad rfl h9)))), eh, rfl⟩
   refine Aj eh ?_
   refine AA (e_t (Ai rfl (Ak rfl (em rfl h1)))) (by rfl) ?_
   refine Aj (em rfl eh) ?_
   refine Ao (e_t eh) (gx 0 rfl) (by rfl) ?_
   refine Aj (Ac rfl eh) ?_
   refine Bc (row := rS) (AN (e_t eh) Bo) ?_
   refine Aj (Ac rfl (em rfl eh)) ?_
   refine Ap (e_t eh) e_c (Ci ?_)
   refine Aj (Ad rfl (Ad rfl eh)) (Am (e_t (Ad rfl eh)) (e_t eh) (Aj (Ai rfl (Ak rfl (Ad rfl eh))) (An (e_t (Ak rfl (em rfl eh))) (e_t eh) (Am (e_t (Ai rfl (Ak rfl (Ad rfl (em rfl eh))))) (e_t eh) (Aa ?_)))))
   exact ⟨(decide ((p0.Cols.length : Int) = (0 : Int))), hr, (Ai rfl (Ak rfl (Ad rfl (Ad rfl h1)))), (Ai rfl (Ak rfl (Ad rfl (Ad rfl h5)))), (Ai rfl (Ak rfl (Ad rfl (Ad rfl h6)))), (Ai rfl (Ak rfl (Ad rfl (Ad rfl h7)))), (Ai rfl (Ak rfl (Ad rfl (Ad rfl h8)))), (Ai rfl (Ak rfl (Ad rfl (Ad rfl h9)))), eh, rfl⟩
 refine Aj eh ?_
 refine AA (e_t (Ad rfl (em rfl h1))) (by rfl) ?_
 refine Aj (em rfl eh) ?_
 refine Ao (e_t eh) (gx 0 rfl) (by rfl) ?_
 refine Aj (Ac rfl eh) ?_
 refine Bc (row := rS) (AN (e_t eh) Bo) ?_
 refine Aj (Ac rfl (em rfl eh)) ?_
 refine AY (Az (e_t eh) AF (Az e_c AF (Az e_c AF A1))) ?_
 refine VJ (p0.Cols.length : Int) (1 : Int) (8 : Int) rfl ?_
 refine Aj (Ad rfl (Ac rfl (em rfl eh))) (Am (e_t (Ad rfl eh)) (e_t eh) (Aj (Ad rfl (Ad rfl eh)) (Ab (e_t eh) ?_)))
 refine Ar eh hr (fun hr => ?_) (fun hr => ?_)
 rotate_left
 · refine Ah eh (Ah (em rfl eh) (Ah (Ac rfl eh) (Aj (Ak rfl (Ad rfl (em rfl eh))) (An (e_t (Ac rfl (em rfl eh))) e_c (Aj (Ak rfl (Ad rfl (Ac rfl eh))) ?_)))))
   refine Ab (e_t eh) (Ah eh (Ah (em rfl eh) (Ah (Ac rfl eh) (Aj (Ai rfl (Ac rfl eh)) (An (e_t (Ac rfl (em rfl eh))) e_c ?_)))))
   refine Aj (Ai rfl (Ac rfl (em rfl eh))) (Ab (e_t eh) (Aj eh (Ab (e_t (Ai rfl (Ad rfl (Ac rfl h4)))) (Aj (em rfl eh) (CN (e_t eh) ?_)))))
   refine Aj (Ac rfl eh) (Ab (e_t eh) ?_)
   refine Ar eh hr (fun hr => ?_) (fun hr => ?_)
   rotate_left
   · refine Ah eh (Ah (em rfl eh) (Ah (Ac rfl eh) (Ah (Ac rfl (em rfl eh)) (Aj (Ad rfl (Ad rfl eh)) (An (e_t (Ad rfl eh)) e_c ?_)))))
     refine Aj (Ai rfl (Ak rfl (Ad rfl (em rfl eh)))) (An (e_t (Ak rfl (em rfl eh))) (e_t eh) (Am (e_t (Ai rfl (Ak rfl (Ad rfl (Ac rfl eh))))) (e_t eh) (Aa ?_)))
     exact ⟨false, hr, (Ai rfl (Ai rfl (em rfl h1))), (Ai rfl (Ai rfl (em rfl h5))), (Ai rfl (Ai rfl (em rfl h6))), (Ai rfl (Ai rfl (em rfl h7))), (Ai rfl (Ai rfl (em rfl h8))), (Ai rfl (Ai rfl (em rfl h9))), eh, rfl⟩
   refine Aj eh ?_
   refine AA (e_t (Ai rfl (Ak rfl (Ac rfl h1)))) (by rfl) ?_
   refine Aj (em rfl eh) ?_
   refine Ao (e_t eh) (gx 0 rfl) (by rfl) ?_
   refine Aj (Ac rfl eh) ?_
   refine Bc (row := rS) (AN (e_t eh) Bo) ?_
   refine Aj (Ac rfl (em rfl eh)) ?_
   refine Ap (e_t eh) e_c (Ci ?_)
   refine Aj (Ad rfl (Ad rfl eh)) (Am (e_t (Ad rfl eh)) (e_t eh) (Aj (Ai rfl (Ak rfl (Ad rfl (em rfl eh)))) (An (e_t (Ak rfl (em rfl eh))) (e_t eh) (Am (e_t (Ai rfl (Ak rfl (Ad rfl (Ac rfl eh))))) (e_t eh) (Aa ?_)))))
   exact ⟨(decide ((p0.Cols.length : Int) = (0 : Int))), hr, (Ai rfl (Ai rfl (em rfl h1))), (Ai rfl (Ai rfl (em rfl h5))), (Ai rfl (Ai rfl (em rfl h6))), (Ai rfl (Ai rfl (em rfl h7))), (Ai rfl (Ai rfl (em rfl h8))), (Ai rfl (Ai rfl (em rfl h9))), eh, rfl⟩
 refine Aj eh ?_
 refine AA (e_t (Ak rfl (Ad rfl h1))) (by rfl) ?_
 refine Aj (em rfl eh) ?_
 refine Ao (e_t eh) (gx 0 rfl) (by rfl) ?_
 refine Aj (Ac rfl eh) ?_
 obtain ⟨v16, hc_v16, hr⟩ := bind_some hr
 refine AY (Az (e_t eh) AF A1) ?_
 refine Ro n p0.Cols hc_v16 ?_
 refine Aj (Ak rfl (Ad rfl (em rfl eh))) (Am (e_t (Ac rfl (em rfl eh))) (e_t eh) (Aj (Ak rfl (Ad rfl (Ac rfl eh))) (Ab (e_t eh) ?_)))
 refine Ar eh hr (fun hr => ?_) (fun hr => ?_)
 rotate_left
 · refine Ah eh (Ah (em rfl eh) (Ah (Ac rfl eh) (Aj (Ai rfl (Ac rfl (em rfl eh))) (An (e_t (Ac rfl (em rfl eh))) e_c (Aj (Ai rfl (Ad rfl eh)) ?_)))))
   refine Ab (e_t eh) (Aj eh (Ab (e_t (Ai rfl (Ad rfl (Ac rfl (em rfl h4))))) (Aj (em rfl eh) (CN (e_t eh) (Aj (Ac rfl eh) ?_)))))
   refine Ab (e_t eh) ?_
   refine Ar eh hr (fun hr => ?_) (fun hr => ?_)
   rotate_left
   · refine Ah eh (Ah (em rfl eh) (Ah (Ac rfl eh) (Ah (Ac rfl (em rfl eh)) (Aj (Ad rfl (Ad rfl eh)) (An (e_t (Ad rfl eh)) e_c ?_)))))
     refine Aj (Ai rfl (Ak rfl (Ad rfl (Ac rfl eh)))) (An (e_t (Ak rfl (em rfl eh))) (e_t eh) (Am (e_t (Ai rfl (Ak rfl (Ad rfl (Ac rfl (em rfl eh)))))) (e_t eh) (Aa ?_)))
     exact ⟨false, hr, (Ai rfl (Ai rfl (Ac rfl h1))), (Ai rfl (Ai rfl (Ac rfl h5))), (Ai rfl (Ai rfl (Ac rfl h6))), (Ai rfl (Ai rfl (Ac rfl h7))), (Ai rfl (Ai rfl (Ac rfl h8))), (Ai rfl (Ai rfl (Ac rfl h9))), eh, rfl⟩
   refine Aj eh ?_
   refine AA (e_t (Ai rfl (Ak rfl (Ac rfl (em rfl h1))))) (by rfl) ?_
   refine Aj (em rfl eh) ?_
   refine Ao (e_t eh) (gx 0 rfl) (by rfl) ?_
   refine Aj (Ac rfl eh) ?_
   refine Bc (row := rS) (AN (e_t eh) Bo) ?_
   refine Aj (Ac rfl (em rfl eh)) ?_
   refine Ap (e_t eh) e_c (Ci ?_)
   refine Aj (Ad rfl (Ad rfl eh)) (Am (e_t (Ad rfl eh)) (e_t eh) (Aj (Ai rfl (Ak rfl (Ad rfl (Ac rfl eh)))) (An (e_t (Ak rfl (em rfl eh))) (e_t eh) (Am (e_t (Ai rfl (Ak rfl (Ad rfl (Ac rfl (em rfl eh)))))) (e_t eh) (Aa ?_)))))
   exact ⟨(decide ((p0.Cols.length : Int) = (0 : Int))), hr, (Ai rfl (Ai rfl (Ac rfl h1))), (Ai rfl (Ai rfl (Ac rfl h5))), (Ai rfl (Ai rfl (Ac rfl h6))), (Ai rfl (Ai rfl (Ac rfl h7))), (Ai rfl (Ai rfl (Ac rfl h8))), (Ai rfl (Ai rfl (Ac rfl h9))), eh, rfl⟩
 refine Aj eh ?_
 refine AA (e_t (Ai rfl (Ac rfl h1))) (by rfl) ?_
 refine Aj (em rfl eh) ?_
 refine Ao (e_t eh) (gx 0 rfl) (by rfl) ?_
 refine Aj (Ac rfl eh) ?_
 obtain ⟨v17, hc_v17, hr⟩ := bind_some hr
 refine AY (Az (e_t eh) AF A1) ?_
 refine Bp9 p0.Cols hc_v17 ?_
 refine Aj (Ai rfl (Ac rfl (em rfl eh))) (Am (e_t (Ac rfl (em rfl eh))) (e_t eh) (Aj (Ai rfl (Ad rfl eh)) (Ab (e_t eh) ?_)))
 refine Ar eh hr (fun hr => ?_) (fun hr => ?_)
 · refine Ah eh (Ah (em rfl eh) (Ah (Ac rfl eh) ?_))
   refine A6 eh ?_
   refine A6 (em rfl eh) ?_
   refine A6 (Ac rfl eh) ?_
   refine A6 (Ac rfl (em rfl eh)) ?_
   refine Ah (Ad rfl (Ac rfl (em rfl eh))) (Aj (Ai rfl (Ak rfl (Ad rfl (Ac rfl eh)))) (Am (e_t (Ad rfl (Ad rfl eh))) e_c (Am (e_t (Ai rfl (Ak rfl (Ad rfl (Ac rfl (em rfl eh)))))) (e_t eh) (Aa ?_))))
   exact ⟨true, hr, (Ai rfl (Ai rfl (Ac rfl h1))), (Ai rfl (Ai rfl (Ac rfl h5))), (Ai rfl (Ai rfl (Ac rfl h6))), (Ai rfl (Ai rfl (Ac rfl h7))), (Ai rfl (Ai rfl (Ac rfl h8))), (Ai rfl (Ai rfl (Ac rfl h9))), eh, rfl⟩
 refine Aj eh (Ab (e_t (Ai rfl (Ad rfl (Ad rfl h4)))) (Aj (em rfl eh) (CN (e_t eh) (Aj (Ac rfl eh) (Ab (e_t eh) ?_)))))
 refine Ar eh hr (fun hr => ?_) (fun hr => ?_)
 rotate_left
 · refine Ah eh (Ah (em rfl eh) (Ah (Ac rfl eh) (Ah (Ac rfl (em rfl eh)) (Aj (Ad rfl (Ad rfl eh)) (An (e_t (Ad rfl eh)) e_c ?_)))))
   refine Aj (Ai rfl (Ak rfl (Ad rfl (Ac rfl (em rfl eh))))) (An (e_t (Ak rfl (em rfl eh))) (e_t eh) (Am (e_t (Ai rfl (Ak rfl (Ad rfl (Ad rfl eh))))) (e_t eh) (Aa ?_)))
   exact ⟨false, hr, (Ai rfl (Ai rfl (Ac rfl (em rfl h1)))), (Ai rfl (Ai rfl (Ac rfl (em rfl h5)))), (Ai rfl (Ai rfl (Ac rfl (em rfl h6)))), (Ai rfl (Ai rfl (Ac rfl (em rfl h7)))), (Ai rfl (Ai rfl (Ac rfl (em rfl h8)))), (Ai rfl (Ai rfl (Ac rfl (em rfl h9)))), eh, rfl⟩
 refine Aj eh ?_
 refine AA (e_t (Ai rfl (Ak rfl (Ad rfl h1)))) (by rfl) ?_
 refine Aj (em rfl eh) ?_
 refine Ao (e_t eh) (gx 0 rfl) (by rfl) ?_
 refine Aj (Ac rfl eh) ?_
 refine Bc (row := rS) (AN (e_t eh) Bo) ?_
 refine Aj (Ac rfl (em rfl eh)) ?_
 refine Ap (e_t eh) e_c (Ci ?_)
 refine Aj (Ad rfl (Ad rfl eh)) (Am (e_t (Ad rfl eh)) (e_t eh) (Aj (Ai rfl (Ak rfl (Ad rfl (Ac rfl (em rfl eh))))) (An (e_t (Ak rfl (em rfl eh))) (e_t eh) (Am (e_t (Ai rfl (Ak rfl (Ad rfl (Ad rfl eh))))) (e_t eh) (Aa ?_)))))
 exact ⟨(decide ((p0.Cols.length : Int) = (0 : Int))), hr, (Ai rfl (Ai rfl (Ac rfl (em rfl h1)))), (Ai rfl (Ai rfl (Ac rfl (em rfl h5)))), (Ai rfl (Ai rfl (Ac rfl (em rfl h6)))), (Ai rfl (Ai rfl (Ac rfl (em rfl h7)))), (Ai rfl (Ai rfl (Ac rfl (em rfl h8)))), (Ai rfl (Ai rfl (Ac rfl (em rfl h9)))), eh, rfl⟩
end Go.Ax
