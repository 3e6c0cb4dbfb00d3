import Derived.Test.YtojkpenjeglipaaGreatTWT
import Derived.Test.YtojkpenjeglipaaGreatTCVX
import Derived.Test.YtojkpenjeglipaaGreatTCPrim
import Derived.Test.YtojkpenjeglipaaGreatTWD2
import Derived.Test.YtojkpenjeglipaaGreatTWD3
import Derived.Test.YtojkpenjeglipaaGreatTWD4
set_option linter.unusedVariables false
set_option maxRecDepth 100000
set_option maxHeartbeats 4000000
namespace Go.Ax
attribute [local irreducible] BH FA F2 Bf DM Hp Cq V4 Lz upd ev u0 Dh frz A4 EO mmD bnd Ch Gk DU C2 Ie JH FZ cutV NL CO
variable {st : List Content}
def MT (p0 : TS) (s_RBlocks : (List TS) → Option Bool) : Option Bool :=
 ((s_RBlocks p0.Body).bind fun v30 => (bif v30 then ((s_RBlocks p0.Else).bind fun v31 => some v31) else some false))
def Rz (p0 : TS) (s_RBlocks : (List TS) → Option Bool) (n : Nat) (q0 : Int → Option Bool) (v27 : Int) : Option Bool :=
 (bif (decide (v27 < (p0.Exprs.length : Int))) then ((Dw p0.Exprs v27).bind fun v28 => ((CL n v28).bind fun v29 => (bif (!v29) then some false else q0 (IntKind.wrap .i64 (v27 + (1 : Int)))))) else (MT p0 s_RBlocks))
def E9 (p0 : TS) (s_RBlocks : (List TS) → Option Bool) (n : Nat) : Nat → Int → Option Bool
 | 0, _ => none
 | m + 1, v27 => Rz p0 s_RBlocks n (E9 p0 s_RBlocks n m) v27
def Ig (p0 : TS) (s_RBlocks : (List TS) → Option Bool) (n : Nat) : Option Bool :=
 (E9 p0 s_RBlocks n n (0 : Int))
def Kw (p0 : TS) (s_RBlocks : (List TS) → Option Bool) (n : Nat) (v25 : Bool) (v26 : Bool) : Option Bool :=
 (bif v26 then some false else (bif (!v25) then (bif (!decide ((p0.Exprs.length : Int) = (IntKind.wrap .i64 ((1 : Int) + (p0.Cols.length : Int))))) then some false else (Ig p0 s_RBlocks n)) else (Ig p0 s_RBlocks n)))
def H2 (p0 : TS) (s_RBlocks : (List TS) → Option Bool) (n : Nat) (v25 : Bool) : Option Bool :=
 (bif v25 then (bif (decide ((p0.Exprs.length : Int) < (1 : Int))) then (Kw p0 s_RBlocks n v25 true) else (Kw p0 s_RBlocks n v25 (decide ((8 : Int) < (p0.Exprs.length : Int))))) else (Kw p0 s_RBlocks n v25 false))
def KC (p0 : TS) (s_RBlocks : (List TS) → Option Bool) (n : Nat) : Option Bool :=
 (bif (decide (p0.Op = (3 : Int))) then (H2 p0 s_RBlocks n true) else (bif (decide (p0.Op = (8 : Int))) then (H2 p0 s_RBlocks n true) else (H2 p0 s_RBlocks n (decide (p0.Op = (10 : Int))))))
def Q5 (p0 : TS) (v19 : Int) (q1 : Int → Option Bool) (q2 : Int → Option Bool) (v22 : Int) : Option Bool :=
 (bif (decide (v22 < v19)) then ((Dw p0.Cols v22).bind fun v23 => ((Dw p0.Cols v19).bind fun v24 => (bif (decide (v23 = v24)) then some false else q2 (IntKind.wrap .i64 (v22 + (1 : Int)))))) else q1 (IntKind.wrap .i64 (v19 + (1 : Int))))
def EI (p0 : TS) (v19 : Int) (q1 : Int → Option Bool) : Nat → Int → Option Bool
 | 0, _ => none
 | m + 1, v22 => Q5 p0 v19 q1 (EI p0 v19 q1 m) v22
def Q0 (p0 : TS) (s_RBlocks : (List TS) → Option Bool) (n : Nat) (q1 : Int → Option Bool) (v19 : Int) : Option Bool :=
 (bif (decide (v19 < (p0.Cols.length : Int))) then ((Dw p0.Cols v19).bind fun v20 => ((EE n v20).bind fun v21 => (bif (!v21) then some false else (EI p0 v19 q1 n (0 : Int))))) else (KC p0 s_RBlocks n))
def E7 (p0 : TS) (s_RBlocks : (List TS) → Option Bool) (n : Nat) : Nat → Int → Option Bool
 | 0, _ => none
 | m + 1, v19 => Q0 p0 s_RBlocks n (E7 p0 s_RBlocks n m) v19
def Db (p0 : TS) (s_RBlocks : (List TS) → Option Bool) (n : Nat) : Option Bool :=
 (E7 p0 s_RBlocks n n (0 : Int))
def DQ (p0 : TS) (s_RBlocks : (List TS) → Option Bool) (n : Nat) (v2 : ByteArray) : Option Bool :=
 ((GY n v2 (99 : Int)).bind fun v11 => (bif (!(v11 == (decide ((0 : Int) < (p0.Cols.length : Int))))) then some false else (bif (decide ((8 : Int) < (p0.Cols.length : Int))) then some false else ((GY n v2 (78 : Int)).bind fun v12 => (bif (!v12) then (bif (!decide (p0.N = (0 : Int))) then some false else (bif (decide (p0.N < (0 : Int))) then some false else (bif (decide ((1000 : Int) < p0.N)) then some false else ((GY n v2 (98 : Int)).bind fun v13 => (bif (!v13) then (bif (decide ((0 : Int) < (p0.Body.length : Int))) then some false else ((GY n v2 (101 : Int)).bind fun v14 => (bif (!v14) then (bif (decide ((0 : Int) < (p0.Else.length : Int))) then some false else (Db p0 s_RBlocks n)) else (Db p0 s_RBlocks n)))) else ((GY n v2 (101 : Int)).bind fun v15 => (bif (!v15) then (bif (decide ((0 : Int) < (p0.Else.length : Int))) then some false else (Db p0 s_RBlocks n)) else (Db p0 s_RBlocks n)))))))) else (bif (decide (p0.N < (0 : Int))) then some false else (bif (decide ((1000 : Int) < p0.N)) then some false else ((GY n v2 (98 : Int)).bind fun v16 => (bif (!v16) then (bif (decide ((0 : Int) < (p0.Body.length : Int))) then some false else ((GY n v2 (101 : Int)).bind fun v17 => (bif (!v17) then (bif (decide ((0 : Int) < (p0.Else.length : Int))) then some false else (Db p0 s_RBlocks n)) else (Db p0 s_RBlocks n)))) else ((GY n v2 (101 : Int)).bind fun v18 => (bif (!v18) then (bif (decide ((0 : Int) < (p0.Else.length : Int))) then some false else (Db p0 s_RBlocks n)) else (Db p0 s_RBlocks n))))))))))))
def H8 (p0 : TS) (s_RBlocks : (List TS) → Option Bool) (n : Nat) (v1 : Bool) : Option Bool :=
 (bif v1 then some false else ((Dw ([(⟨#[]⟩ : ByteArray), (⟨#[110]⟩ : ByteArray), (⟨#[110]⟩ : ByteArray), (⟨#[115]⟩ : ByteArray), (⟨#[110, 115, 99]⟩ : ByteArray), (⟨#[110, 115]⟩ : ByteArray), (⟨#[110, 115, 78, 98]⟩ : ByteArray), (⟨#[98, 101]⟩ : ByteArray), (⟨#[115]⟩ : ByteArray), (⟨#[]⟩ : ByteArray), (⟨#[]⟩ : ByteArray)]) p0.Op).bind fun v2 => ((GY n v2 (110 : Int)).bind fun v3 => (bif (!(v3 == (!decide (p0.Name = (⟨#[]⟩ : ByteArray))))) then some false else ((GY n v2 (115 : Int)).bind fun v4 => (bif (!(v4 == (!decide (p0.Src = (⟨#[]⟩ : ByteArray))))) then some false else ((GY n v2 (110 : Int)).bind fun v5 => (bif v5 then ((EE n p0.Name).bind fun v6 => (bif (!v6) then some false else ((GY n v2 (115 : Int)).bind fun v7 => (bif v7 then ((EE n p0.Src).bind fun v8 => (bif (!v8) then some false else (DQ p0 s_RBlocks n v2))) else (DQ p0 s_RBlocks n v2))))) else ((GY n v2 (115 : Int)).bind fun v9 => (bif v9 then ((EE n p0.Src).bind fun v10 => (bif (!v10) then some false else (DQ p0 s_RBlocks n v2))) else (DQ p0 s_RBlocks n v2)))))))))))
def XJ (s_RBuilt : TS → Option Bool) (s_RBlocks : (List TS) → Option Bool) (n : Nat) (p0 : TS) : Option Bool :=
 (bif (decide (p0.Op < (1 : Int))) then (H8 p0 s_RBlocks n true) else (H8 p0 s_RBlocks n (decide ((10 : Int) < p0.Op))))
theorem BR4 (s_RBuilt : TS → Option Bool) (s_RBlocks : (List TS) → Option Bool) (n : Nat) (p0 : TS) (H_s_RBuilt : ∀ (p0 : TS) {r : Bool}, s_RBuilt p0 = some r → ∀ {st : List Content} {K : PV → List Content → Prop} (h : K (.d (.bool r)) st), Aw PR Te [(.agg [(.d (.int .i64 p0.Op)), (.d (.str p0.Name)), (.d (.str p0.Src)), (.d (.int .i64 p0.N)), (.d (.sl (List.map rS p0.Cols))), (.d (.sl (List.map TE.row p0.Exprs))), (.d (.sl (List.map TS.row p0.Body))), (.d (.sl (List.map TS.row p0.Else)))])] st K) (H_s_RBlocks : ∀ (p0 : (List TS)) {r : Bool}, s_RBlocks p0 = some r → ∀ {st : List Content} {K : PV → List Content → Prop} (h : K (.d (.bool r)) st), Aw PR Gx [(.d (.sl (List.map TS.row p0)))] st K) {r : Bool} (hr : XJ s_RBuilt s_RBlocks n p0 = some r) {K : PV → List Content → Prop} (h : K (.d (.bool r)) st) : Aw PR Te [(.agg [(.d (.int .i64 p0.Op)), (.d (.str p0.Name)), (.d (.str p0.Src)), (.d (.int .i64 p0.N)), (.d (.sl (List.map rS p0.Cols))), (.d (.sl (List.map TE.row p0.Exprs))), (.d (.sl (List.map TS.row p0.Body))), (.d (.sl (List.map TS.row p0.Else)))])] st K := by
 refine Aw.of BB7 (Nat.le_of_ble_eq_true rfl) fun hwf => ?_
 rw [CE]
 refine AS ?_
 unfold Bi6
 rw [XJ] at hr
 refine Al (Af ?_)
 unfold AX7
 refine GV (k := 0) rfl rfl (e_t eh) Bi (by rfl) ?_
 refine Ab e_c (Aa (Ae (Al ?_)))
 refine BL (fun f st' => ∃ (v1 : Bool), H8 p0 s_RBlocks n v1 = some r ∧ f 1 = (.ptr (st.length + 0) 0) ∧ f 17 = (.d (.bool v1)) ∧ st' = st ++ [(.box [(.d (.int .i64 p0.Op)), (.d (.str p0.Name)), (.d (.str p0.Src)), (.d (.int .i64 p0.N)), (.d (.sl (List.map rS p0.Cols))), (.d (.sl (List.map TE.row p0.Exprs))), (.d (.sl (List.map TS.row p0.Body))), (.d (.sl (List.map TS.row p0.Else)))])]) ?_ ?_
 · refine Af ?_
   unfold AS1
   refine AA (e_t (em rfl eh)) (by rfl) ?_
   refine Ao (e_t eh) (gx 0 rfl) (by rfl) ?_
   refine Ap (e_t eh) e_c (Da ?_)
   refine Ab (e_t eh) ?_
   refine Ar eh hr (fun hr => ?_) (fun hr => ?_)
   · refine Ah eh (Ah (em rfl eh) (Ah (Ac rfl eh) (Am (e_t (Ac rfl (em rfl eh))) e_c (Aa (Ae ?_)))))
     exact ⟨true, hr, (Ak rfl (Ac rfl eh)), eh, rfl⟩
   refine Aj eh ?_
   refine AA (e_t (Ad rfl (Ac rfl eh))) (by rfl) ?_
   refine Aj (em rfl eh) ?_
   refine Ao (e_t eh) (gx 0 rfl) (by rfl) ?_
   refine Aj (Ac rfl eh) ?_
   refine Ap (e_t eh) e_c (B6 ?_)
   refine An (e_t (Ac rfl (em rfl eh))) (e_t eh) (Aa (Ae ?_))
   exact ⟨(decide ((10 : Int) < p0.Op)), hr, (Ak rfl (Ac rfl eh)), eh, rfl⟩
 rintro f st' ⟨v1, hr, h1, h17, rfl⟩
 rw [H8] at hr
 refine AB (e_t h17) hr (fun hr => ?_) (fun hr => ?_)
 · refine Al (Af ?_)
   unfold AV0
   refine Ab e_c (Aa (Ae (AH (Ay ?_))))
   cases hr
   exact A5 (AE eh AG) (AK AF v_d) (As hwf) h
 refine AM (Ae (Al (Af ?_)))
 unfold AR7
 refine DW (rows := List.map rS [(⟨#[]⟩ : ByteArray), (⟨#[110]⟩ : ByteArray), (⟨#[110]⟩ : ByteArray), (⟨#[115]⟩ : ByteArray), (⟨#[110, 115, 99]⟩ : ByteArray), (⟨#[110, 115]⟩ : ByteArray), (⟨#[110, 115, 78, 98]⟩ : ByteArray), (⟨#[98, 101]⟩ : ByteArray), (⟨#[115]⟩ : ByteArray), (⟨#[]⟩ : ByteArray), (⟨#[]⟩ : ByteArray)]) ((AC e_c A2 (Au f_d AJ) rfl (AC e_c A2 (Au f_d AJ) rfl (AC e_c A2 (Au f_d AJ) rfl (AC e_c A2 (Au f_d AJ) rfl (AC e_c A2 (Au f_d AJ) rfl (AC e_c A2 (Au f_d AJ) rfl (AC e_c A2 (Au f_d AJ) rfl (AC e_c A2 (Au f_d AJ) rfl (AC e_c A2 (Au f_d AJ) rfl (AC e_c A2 (Au f_d AJ) rfl (AC e_c A2 (Au f_d AJ) rfl FJ)))))))))))) ?_
 refine Ab (e_t eh) (Aa (Ae (Al (Af ?_))))
 unfold AT1
 refine Ab (e_t eh) ?_
 refine AA (e_t (Ac rfl (em rfl h1))) (by rfl) ?_
 refine Ao (e_t eh) (gx 0 rfl) (by rfl) ?_
 refine Bt (row := rS) (AN (e_t (Ac rfl eh)) S4) (e_t eh) hr (fun _ => rfl) (fun _ => rfl) (fun v2 hr => ?_)
 refine BF (e_t eh) (by rfl) ?_
 refine Ab (e_t eh) (Aa (Ae ?_))
 refine BL (fun f st' => DQ p0 s_RBlocks n v2 = some r ∧ f 1 = (.ptr (st.length + 0) 0) ∧ f 4 = (.d (.str v2)) ∧ st' = st ++ [(.box [(.d (.int .i64 p0.Op)), (.d (.str p0.Name)), (.d (.str p0.Src)), (.d (.int .i64 p0.N)), (.d (.sl (List.map rS p0.Cols))), (.d (.sl (List.map TE.row p0.Exprs))), (.d (.sl (List.map TS.row p0.Body))), (.d (.sl (List.map TS.row p0.Else)))]), .fresh, .fresh, .fresh, .fresh, .fresh, .fresh]) ?_ ?_
 · refine Al ?_
   refine IM (k := 1) rfl rfl ?_
   unfold AR5
   refine Ag (R := []) rfl rfl (Ab (e_t eh) (Aa ?_))
   obtain ⟨v3, hc_v3, hr⟩ := bind_some hr
   refine F9 (Az (e_t eh) AF (Az e_c AF A1)) (B2 (e_t eh) (by rfl) (B2 e_c (by rfl) F1)) (fun st2 => VR n v2 (110 : Int) hc_v3 ⟨rfl, rfl⟩) ?_
   refine Ag (R := []) rfl rfl (AA (e_t (Ak rfl (Ac rfl h1))) (by rfl) (Aa ?_))
   refine Ag rfl (BM (e_t eh)) (Ao (e_t eh) (gx 0 rfl) (by rfl) (Aa ?_))
   refine Ag (R := []) rfl rfl (Ap (e_t eh) e_c (XU (Aa ?_)))
   refine Ag (R := []) rfl rfl (Ca8 (e_t (Ac rfl (em rfl eh))) (e_t eh) (Aa ?_))
   refine Ag (R := []) rfl rfl (Ab (e_t eh) (Aa ?_))
   refine CC eh hr (fun hr => ?_) (fun hr => ?_)
   · refine Av eh (Av (em rfl eh) (Av (Ac rfl eh) (Av (Ac rfl (em rfl eh)) (Av (Ad rfl eh) (Av (Ad rfl (em rfl eh)) ?_)))))
     refine Ag (R := []) rfl rfl (Am (e_t (Ad rfl (Ac rfl eh))) e_c (Aa ?_))
     refine Ag (R := []) rfl rfl (Ab (e_t eh) (Aa ?_))
     refine Av eh (Av (em rfl eh) (Av (Ac rfl eh) ?_))
     refine AV eh ?_
     refine AV (em rfl eh) ?_
     refine AV (Ac rfl eh) ?_
     refine AV (Ac rfl (em rfl eh)) ?_
     refine Av (Ad rfl (Ac rfl (em rfl eh))) ?_
     refine Ag (R := []) rfl rfl (Am (e_t (Ad rfl (Ad rfl eh))) e_c (Aa ?_))
     refine Ag (R := []) rfl rfl (Ab (e_t eh) (Aa ?_))
     refine Av eh (Av (em rfl eh) (Av (Ac rfl eh) ?_))
     refine AV eh ?_
     refine AV (em rfl eh) ?_
     refine AV (Ac rfl eh) ?_
     refine AV (Ac rfl (em rfl eh)) ?_
     refine Av (Ad rfl (Ac rfl (em rfl eh))) ?_
     refine Ag (R := []) rfl rfl (Am (e_t (Ad rfl (Ad rfl eh))) e_c (Aa ?_))
     refine BO ?_
     refine ⟨by simp [Ch, okPairs, BP, FY], ?_⟩
     refine Ae ?_
     refine DC (e_t eh) ?_
     refine Al (Af ?_)
     unfold KG
     refine Ab e_c (Aa (Ae (AH (Ay ?_))))
     cases hr
     exact A5 (AE eh AG) (AK AF v_d) (As hwf) h
   refine AT eh ?_
   refine Ag (R := []) rfl rfl (Ab (e_t (Ad rfl (Ad rfl eh))) (Aa ?_))
   refine AT (em rfl eh) ?_
   obtain ⟨v4, hc_v4, hr⟩ := bind_some hr
   refine F9 (Az (e_t eh) AF (Az e_c AF A1)) (B2 (e_t eh) (by rfl) (B2 e_c (by rfl) F1)) (fun st2 => VR n v2 (115 : Int) hc_v4 ⟨rfl, rfl⟩) ?_
   refine AT (Ac rfl eh) ?_
   refine Ag (R := []) rfl rfl (AA (e_t (Ai rfl (Ac rfl h1))) (by rfl) (Aa ?_))
   refine AT (Ac rfl (em rfl eh)) ?_
   refine Ag rfl (BM (e_t eh)) (Ao (e_t eh) (gx 0 rfl) (by rfl) (Aa ?_))
   refine AT (Ad rfl eh) ?_
   refine Ag (R := []) rfl rfl (Ap (e_t eh) e_c (XU (Aa ?_)))
   refine AT (Ad rfl (em rfl eh)) ?_
   refine Ag (R := []) rfl rfl (Ca8 (e_t (Ac rfl (em rfl eh))) (e_t eh) (Aa ?_))
   refine Ag (R := []) rfl rfl (An (e_t (Ad rfl (Ac rfl eh))) (e_t eh) (Aa ?_))
   refine Ag (R := []) rfl rfl (Ab (e_t eh) (Aa ?_))
   refine CC eh hr (fun hr => ?_) (fun hr => ?_)
   · refine Av eh (Av (em rfl eh) (Av (Ac rfl eh) ?_))
     refine AV eh ?_
     refine AV (em rfl eh) ?_
     refine AV (Ac rfl eh) ?_
     refine AV (Ac rfl (em rfl eh)) ?_
     refine Av (Ad rfl (Ac rfl (em rfl eh))) ?_
     refine Ag (R := []) rfl rfl (Am (e_t (Ad rfl (Ad rfl eh))) e_c (Aa ?_))
     refine Ag (R := []) rfl rfl (Ab (e_t eh) (Aa ?_))
     refine Av eh (Av (em rfl eh) (Av (Ac rfl eh) ?_))
     refine AV eh ?_
     refine AV (em rfl eh) ?_
     refine AV (Ac rfl eh) ?_
     refine AV (Ac rfl (em rfl eh)) ?_
     refine Av (Ad rfl (Ac rfl (em rfl eh))) ?_
     refine Ag (R := []) rfl rfl (Am (e_t (Ad rfl (Ad rfl eh))) e_c (Aa ?_))
     refine BO ?_
     refine ⟨by simp [Ch, okPairs, BP, FY], ?_⟩
     refine Ae ?_
     refine DC (e_t eh) ?_
     refine Al (Af ?_)
     unfold KG
     refine Ab e_c (Aa (Ae (AH (Ay ?_))))
     cases hr
     exact A5 (AE eh AG) (AK AF v_d) (As hwf) h
   refine AT eh ?_
   refine Ag (R := []) rfl rfl (Ab (e_t (Ai rfl (em rfl eh))) (Aa ?_))
   refine AT (em rfl eh) ?_
   obtain ⟨v5, hc_v5, hr⟩ := bind_some hr
   refine F9 (Az (e_t eh) AF (Az e_c AF A1)) (B2 (e_t eh) (by rfl) (B2 e_c (by rfl) F1)) (fun st2 => VR n v2 (110 : Int) hc_v5 ⟨rfl, rfl⟩) ?_
   refine AT (Ac rfl eh) ?_
   refine Ag (R := []) rfl rfl (Ab (e_t eh) (Aa ?_))
   refine CC eh hr (fun hr => ?_) (fun hr => ?_)
   rotate_left
   · refine Av eh (Av (em rfl eh) (Av (Ac rfl eh) (Av (Ac rfl (em rfl eh)) (AT (Ad rfl (Ad rfl eh)) ?_))))
     refine Ag (R := []) rfl rfl (An (e_t (Ad rfl eh)) e_c (Aa ?_))
     refine Ag (R := []) rfl rfl (An (e_t (Ak rfl (em rfl eh))) (e_t eh) (Aa ?_))
     refine Ag (R := []) rfl rfl (Ab (e_t eh) (Aa ?_))
     refine AT eh ?_
     refine Ag (R := []) rfl rfl (Ab (e_t (Ai rfl (Ak rfl (Ad rfl eh)))) (Aa ?_))
     refine AT (em rfl eh) ?_
     obtain ⟨v9, hc_v9, hr⟩ := bind_some hr
     refine F9 (Az (e_t eh) AF (Az e_c AF A1)) (B2 (e_t eh) (by rfl) (B2 e_c (by rfl) F1)) (fun st2 => VR n v2 (115 : Int) hc_v9 ⟨rfl, rfl⟩) ?_
     refine AT (Ac rfl eh) ?_
     refine Ag (R := []) rfl rfl (Ab (e_t eh) (Aa ?_))
     refine CC eh hr (fun hr => ?_) (fun hr => ?_)
     rotate_left
     · refine Av eh (Av (em rfl eh) (Av (Ac rfl eh) (Av (Ac rfl (em rfl eh)) (AT (Ad rfl (Ad rfl eh)) ?_))))
       refine Ag (R := []) rfl rfl (An (e_t (Ad rfl eh)) e_c (Aa ?_))
       refine Ag (R := []) rfl rfl (An (e_t (Ak rfl (em rfl eh))) (e_t eh) (Aa ?_))
       refine BO ?_
       refine ⟨by simp [Ch, okPairs, BP, FY], ?_⟩
       refine Ae ?_
       refine FO (e_t eh) ?_
       refine AM (Ae ?_)
       exact ⟨hr, (Ai rfl (Ai rfl (Ak rfl (Ad rfl (Ac rfl h1))))), (Ai rfl (Ai rfl (Ad rfl (Ac rfl eh)))), rfl⟩
     refine AT eh ?_
     refine Ag (R := []) rfl rfl (AA (e_t (Ai rfl (Ai rfl (Ad rfl (Ad rfl h1))))) (by rfl) (Aa ?_))
     refine AT (em rfl eh) ?_
     refine Ag rfl (BM (e_t eh)) (Ao (e_t eh) (gx 0 rfl) (by rfl) (Aa ?_))
     refine AT (Ac rfl eh) ?_
     obtain ⟨v10, hc_v10, hr⟩ := bind_some hr
     refine F9 (Az (e_t eh) AF A1) (B2 (e_t eh) (by rfl) F1) (fun st2 => MB n p0.Src hc_v10 ⟨rfl, rfl⟩) ?_
     refine AT (Ac rfl (em rfl eh)) ?_
     refine Ag (R := []) rfl rfl (CN (e_t eh) (Aa ?_))
     refine AT (Ad rfl (Ad rfl eh)) ?_
     refine Ag (R := []) rfl rfl (Am (e_t (Ad rfl eh)) (e_t eh) (Aa ?_))
     refine Ag (R := []) rfl rfl (An (e_t (Ak rfl (em rfl eh))) (e_t eh) (Aa ?_))
     refine BO ?_
     refine ⟨by simp [Ch, okPairs, BP, FY], ?_⟩
     refine Ae ?_
     refine AB (e_t eh) hr (fun hr => ?_) (fun hr => ?_)
     rotate_left
     · refine AM (Ae ?_)
       exact ⟨hr, (Ai rfl (Ai rfl (Ak rfl (Ad rfl (Ac rfl h1))))), (Ai rfl (Ai rfl (Ad rfl (Ac rfl eh)))), rfl⟩
     refine Al (Af ?_)
     unfold KG
     refine Ab e_c (Aa (Ae (AH (Ay ?_))))
     cases hr
     exact A5 (AE eh AG) (AK AF v_d) (As hwf) h
   refine AT eh ?_
   refine Ag (R := []) rfl rfl (AA (e_t (Ai rfl (Ak rfl (Ad rfl (em rfl h1))))) (by rfl) (Aa ?_))
   refine AT (em rfl eh) ?_
   refine Ag rfl (BM (e_t eh)) (Ao (e_t eh) (gx 0 rfl) (by rfl) (Aa ?_))
   refine AT (Ac rfl eh) ?_
   obtain ⟨v6, hc_v6, hr⟩ := bind_some hr
   refine F9 (Az (e_t eh) AF A1) (B2 (e_t eh) (by rfl) F1) (fun st2 => MB n p0.Name hc_v6 ⟨rfl, rfl⟩) ?_
   refine AT (Ac rfl (em rfl eh)) ?_
   refine Ag (R := []) rfl rfl (CN (e_t eh) (Aa ?_))
   refine AT (Ad rfl (Ad rfl eh)) ?_
   refine Ag (R := []) rfl rfl (Am (e_t (Ad rfl eh)) (e_t eh) (Aa ?_))
   refine Ag (R := []) rfl rfl (An (e_t (Ak rfl (em rfl eh))) (e_t eh) (Aa ?_))
   refine Ag (R := []) rfl rfl (Ab (e_t eh) (Aa ?_))
   refine CC eh hr (fun hr => ?_) (fun hr => ?_)
   · refine Av eh (Av (em rfl eh) (Av (Ac rfl eh) ?_))
     refine AV eh ?_
     refine AV (em rfl eh) ?_
     refine AV (Ac rfl eh) ?_
     refine AV (Ac rfl (em rfl eh)) ?_
     refine Av (Ad rfl (Ac rfl (em rfl eh))) ?_
     refine Ag (R := []) rfl rfl (Am (e_t (Ad rfl (Ad rfl eh))) e_c (Aa ?_))
     refine BO ?_
     refine ⟨by simp [Ch, okPairs, BP, FY], ?_⟩
     refine Ae ?_
     refine DC (e_t eh) ?_
     refine Al (Af ?_)
     unfold KG
     refine Ab e_c (Aa (Ae (AH (Ay ?_))))
     cases hr
     exact A5 (AE eh AG) (AK AF v_d) (As hwf) h
   refine AT eh ?_
   refine Ag (R := []) rfl rfl (Ab (e_t (Ai rfl (Ak rfl (Ad rfl (em rfl eh))))) (Aa ?_))
   refine AT (em rfl eh) ?_
   obtain ⟨v7, hc_v7, hr⟩ := bind_some hr
   refine F9 (Az (e_t eh) AF (Az e_c AF A1)) (B2 (e_t eh) (by rfl) (B2 e_c (by rfl) F1)) (fun st2 => VR n v2 (115 : Int) hc_v7 ⟨rfl, rfl⟩) ?_
   refine AT (Ac rfl eh) ?_
   refine Ag (R := []) rfl rfl (Ab (e_t eh) (Aa ?_))
   refine CC eh hr (fun hr => ?_) (fun hr => ?_)
   rotate_left
   · refine Av eh (Av (em rfl eh) (Av (Ac rfl eh) (Av (Ac rfl (em rfl eh)) (AT (Ad rfl (Ad rfl eh)) ?_))))
     refine Ag (R := []) rfl rfl (An (e_t (Ad rfl eh)) e_c (Aa ?_))
     refine Ag (R := []) rfl rfl (An (e_t (Ak rfl (em rfl eh))) (e_t eh) (Aa ?_))
     refine BO ?_
     refine ⟨by simp [Ch, okPairs, BP, FY], ?_⟩
     refine Ae ?_
     refine FO (e_t eh) ?_
     refine AM (Ae ?_)
     exact ⟨hr, (Ai rfl (Ai rfl (Ak rfl (Ad rfl (Ac rfl (em rfl h1)))))), (Ai rfl (Ai rfl (Ad rfl (Ac rfl (em rfl eh))))), rfl⟩
   refine AT eh ?_
   refine Ag (R := []) rfl rfl (AA (e_t (Ai rfl (Ai rfl (Ak rfl (em rfl h1))))) (by rfl) (Aa ?_))
   refine AT (em rfl eh) ?_
   refine Ag rfl (BM (e_t eh)) (Ao (e_t eh) (gx 0 rfl) (by rfl) (Aa ?_))
   refine AT (Ac rfl eh) ?_
   obtain ⟨v8, hc_v8, hr⟩ := bind_some hr
   refine F9 (Az (e_t eh) AF A1) (B2 (e_t eh) (by rfl) F1) (fun st2 => MB n p0.Src hc_v8 ⟨rfl, rfl⟩) ?_
   refine AT (Ac rfl (em rfl eh)) ?_
   refine Ag (R := []) rfl rfl (CN (e_t eh) (Aa ?_))
   refine AT (Ad rfl (Ad rfl eh)) ?_
   refine Ag (R := []) rfl rfl (Am (e_t (Ad rfl eh)) (e_t eh) (Aa ?_))
   refine Ag (R := []) rfl rfl (An (e_t (Ak rfl (em rfl eh))) (e_t eh) (Aa ?_))
   refine BO ?_
   refine ⟨by simp [Ch, okPairs, BP, FY], ?_⟩
   refine Ae ?_
   refine AB (e_t eh) hr (fun hr => ?_) (fun hr => ?_)
   rotate_left
   · refine AM (Ae ?_)
     exact ⟨hr, (Ai rfl (Ai rfl (Ak rfl (Ad rfl (Ac rfl (em rfl h1)))))), (Ai rfl (Ai rfl (Ad rfl (Ac rfl (em rfl eh))))), rfl⟩
   refine Al (Af ?_)
   unfold KG
   refine Ab e_c (Aa (Ae (AH (Ay ?_))))
   cases hr
   exact A5 (AE eh AG) (AK AF v_d) (As hwf) h
 rintro f st' ⟨hr, h1, h4, rfl⟩
 rw [DQ] at hr
 refine BL (fun f st' => Db p0 s_RBlocks n = some r ∧ f 1 = (.ptr (st.length + 0) 0) ∧ st' = st ++ [(.box [(.d (.int .i64 p0.Op)), (.d (.str p0.Name)), (.d (.str p0.Src)), (.d (.int .i64 p0.N)), (.d (.sl (List.map rS p0.Cols))), (.d (.sl (List.map TE.row p0.Exprs))), (.d (.sl (List.map TS.row p0.Body))), (.d (.sl (List.map TS.row p0.Else)))]), .fresh, .fresh, .fresh, .fresh, .fresh, .fresh, .fresh, .fresh, .fresh, .fresh]) ?_ ?_
 rotate_left
 · rintro f st' ⟨hr, h1, rfl⟩
   rw [Db] at hr
   refine BL (fun f st' => KC p0 s_RBlocks n = some r ∧ f 1 = (.ptr (st.length + 0) 0) ∧ st' = st ++ [(.box [(.d (.int .i64 p0.Op)), (.d (.str p0.Name)), (.d (.str p0.Src)), (.d (.int .i64 p0.N)), (.d (.sl (List.map rS p0.Cols))), (.d (.sl (List.map TE.row p0.Exprs))), (.d (.sl (List.map TS.row p0.Body))), (.d (.sl (List.map TS.row p0.Else)))]), .fresh, .fresh, .fresh, .fresh, .fresh, .fresh, .fresh, .fresh, .fresh, .fresh]) ?_ ?_
   · refine Al (Af ?_)
     unfold AR6
     refine Ab e_c (Aa (Ae ?_))
     refine A3 ?_
     refine Cy (fun m f st' => ∃ (v19 : Int), E7 p0 s_RBlocks n m v19 = some r ∧ f 1 = (.ptr (st.length + 0) 0) ∧ f 5 = (.d (.int .i64 v19)) ∧ st' = st ++ [(.box [(.d (.int .i64 p0.Op)), (.d (.str p0.Name)), (.d (.str p0.Src)), (.d (.int .i64 p0.N)), (.d (.sl (List.map rS p0.Cols))), (.d (.sl (List.map TE.row p0.Exprs))), (.d (.sl (List.map TS.row p0.Body))), (.d (.sl (List.map TS.row p0.Else)))]), .fresh, .fresh, .fresh, .fresh, .fresh, .fresh, .fresh, .fresh, .fresh, .fresh]) n (Ghost.refl _) ⟨(0 : Int), hr, (em rfl h1), eh, rfl⟩ ?_
     rintro m f st' ⟨v19, hr, h1, h5, rfl⟩
     cases m with
     | zero => cases hr
     | succ m_1 =>
       rw [E7] at hr
       generalize hrec_1 : E7 p0 s_RBlocks n m_1 = q1 at hr
       rw [Q0] at hr
       unfold AC5
       refine Al (Al (Af ?_))
       unfold Av2
       refine Ab (e_t h5) ?_
       refine AA (e_t (em rfl h1)) (by rfl) ?_
       refine Ao (e_t eh) (gx 0 rfl) (by rfl) ?_
       refine Bc (row := rS) (AN (e_t eh) Bo) ?_
       refine Ap (e_t (Ac rfl (em rfl eh))) (e_t eh) (Da ?_)
       refine Aa (Ae ?_)
       refine AB (e_t eh) hr (fun hr => ?_) (fun hr => ?_)
       rotate_left
       · refine Dj ?_
         refine A8 ?_
         refine A8 ?_
         refine Fo ?_
         refine Ae ?_
         exact ⟨hr, (Ad rfl (em rfl h1)), rfl⟩
       refine AM (Ae (Al ?_))
       refine A3 ?_
       refine Al (Al (Af ?_))
       unfold AE9
       refine AA (e_t (Ad rfl (em rfl h1))) (by rfl) ?_
       refine Ao (e_t eh) (gx 0 rfl) (by rfl) ?_
       refine Ab (e_t (Ad rfl (Ac rfl (em rfl h5)))) ?_
       refine Bt (row := rS) (AN (e_t (em rfl eh)) Bo) (e_t eh) hr (fun _ => rfl) (fun _ => rfl) (fun v20 hr => ?_)
       refine BF (e_t eh) (by rfl) ?_
       obtain ⟨v21, hc_v21, hr⟩ := bind_some hr
       refine AY (Az (e_t eh) AF A1) ?_
       refine MB n v20 hc_v21 ?_
       refine CN (e_t eh) (Aa (Ae ?_))
       refine AB (e_t eh) hr (fun hr => ?_) (fun hr => ?_)
       · refine Al (Af ?_)
         unfold AK3
         refine Ab e_c (Aa (Ae (AH (Ay ?_))))
         refine Bw ?_
         refine Ay (Ay ?_)
         refine Bw ?_
         refine Ay ?_
         cases hr
         exact A5 (AE eh AG) (AK AF v_d) (As hwf) h
       refine AM (Ae (Al (Af ?_)))
       unfold AG3
       refine Ab e_c (Aa (Ae ?_))
       refine A3 ?_
       refine Cy (fun m f st' => ∃ (v22 : Int), EI p0 v19 q1 m v22 = some r ∧ f 1 = (.ptr (st.length + 0) 0) ∧ f 5 = (.d (.int .i64 v19)) ∧ f 6 = (.d (.int .i64 v22)) ∧ st' = st ++ [(.box [(.d (.int .i64 p0.Op)), (.d (.str p0.Name)), (.d (.str p0.Src)), (.d (.int .i64 p0.N)), (.d (.sl (List.map rS p0.Cols))), (.d (.sl (List.map TE.row p0.Exprs))), (.d (.sl (List.map TS.row p0.Body))), (.d (.sl (List.map TS.row p0.Else)))]), .fresh, .fresh, .fresh, .fresh, .fresh, .fresh, .fresh, .fresh, .fresh, .fresh]) n (Ghost.refl _) ⟨(0 : Int), hr, (Ak rfl (Ad rfl (em rfl h1))), (Ak rfl (Ad rfl (em rfl h5))), eh, rfl⟩ ?_
       rintro m f st' ⟨v22, hr, h1, h5, h6, rfl⟩
       cases m with
       | zero => cases hr
       | succ m_2 =>
         rw [EI] at hr
         generalize hrec_2 : EI p0 v19 q1 m_2 = q2 at hr
         rw [Q5] at hr
         unfold Av4
         refine Al (Al (Af ?_))
         unfold AF8
         refine Ab (e_t h6) (Ab (e_t (em rfl h5)) ?_)
         refine Ap (e_t (em rfl eh)) (e_t eh) (Da ?_)
         refine Aa (Ae ?_)
         refine AB (e_t eh) hr (fun hr => ?_) (fun hr => ?_)
         rotate_left
         · refine Dj ?_
           refine A8 ?_
           refine A8 ?_
           refine Fo ?_
           refine BQ ?_
           refine Ae (Af ?_)
           unfold AD7
           refine Ab (e_t (Ac rfl (em rfl h5))) ?_
           refine Ap (e_t eh) e_c (B4 ?_)
           refine Ab (e_t eh) (Aa (Ae ?_))
           exact ⟨m_1, _, Nat.lt_succ_self m_1, Ghost.refl _, (IntKind.wrap .i64 (v19 + (1 : Int))), (by rw [hrec_1]; exact hr), (Ad rfl (Ac rfl h1)), eh, rfl⟩
         refine AM (Ae (Al ?_))
         refine A3 ?_
         refine Al ?_
         refine EQ (k := 11) rfl rfl ?_
         unfold AN5
         refine AA (e_t (Ac rfl (em rfl h1))) (by rfl) ?_
         refine Ao (e_t eh) (gx 0 rfl) (by rfl) ?_
         refine Ab (e_t (Ad rfl (em rfl h6))) ?_
         refine Bt (row := rS) (AN (e_t (em rfl eh)) Bo) (e_t eh) hr (fun _ => rfl) (fun _ => rfl) (fun v23 hr => ?_)
         refine BF (e_t eh) (by rfl) ?_
         refine AA (e_t (Ad rfl (Ad rfl h1))) (by rfl) ?_
         refine Ao (e_t eh) (gx 0 rfl) (by rfl) ?_
         refine Ab (e_t (Ak rfl (Ac rfl h5))) ?_
         refine Bt (row := rS) (AN (e_t (em rfl eh)) Bo) (e_t eh) hr (fun _ => rfl) (fun _ => rfl) (fun v24 hr => ?_)
         refine BF (e_t eh) (by rfl) ?_
         refine Ap (e_t (Ad rfl (em rfl eh))) (e_t eh) (Do ?_)
         refine Aa (Ae ?_)
         refine AB (e_t eh) hr (fun hr => ?_) (fun hr => ?_)
         rotate_left
         · refine AM ?_
           refine BQ ?_
           refine Ae (Af ?_)
           unfold AE7
           refine Ab (e_t (Ak rfl (Ad rfl (Ac rfl h6)))) ?_
           refine Ap (e_t eh) e_c (B4 ?_)
           refine Ab (e_t eh) (Aa (Ae ?_))
           exact ⟨m_2, _, Nat.lt_succ_self m_2, Ghost.refl _, (IntKind.wrap .i64 (v22 + (1 : Int))), (by rw [hrec_2]; exact hr), (Ai rfl (em rfl h1)), (Ai rfl (em rfl h5)), eh, rfl⟩
         refine Al (Af ?_)
         unfold AE8
         refine Ab e_c (Aa (Ae (AH ?_)))
         refine Bw ?_
         refine Ay (Ay ?_)
         refine Bw ?_
         refine Bw ?_
         refine Ay (Ay ?_)
         refine Bw ?_
         refine Ay ?_
         cases hr
         exact A5 (AE eh AG) (AK AF v_d) (As hwf) h
   rintro f st' ⟨hr, h1, rfl⟩
   rw [KC] at hr
   refine Al (Af ?_)
   unfold Ay0
   refine AA (e_t h1) (by rfl) ?_
   refine Ao (e_t eh) (gx 0 rfl) (by rfl) ?_
   refine Bc (row := TE.row) (AN (e_t eh) Bo) ?_
   refine Ab (e_t eh) (Aa (Ae ?_))
   refine BL (fun f st' => ∃ (v25 : Bool), H2 p0 s_RBlocks n v25 = some r ∧ f 1 = (.ptr (st.length + 0) 0) ∧ f 7 = (.d (.int .i64 (p0.Exprs.length : Int))) ∧ f 8 = (.d (.bool v25)) ∧ st' = st ++ [(.box [(.d (.int .i64 p0.Op)), (.d (.str p0.Name)), (.d (.str p0.Src)), (.d (.int .i64 p0.N)), (.d (.sl (List.map rS p0.Cols))), (.d (.sl (List.map TE.row p0.Exprs))), (.d (.sl (List.map TS.row p0.Body))), (.d (.sl (List.map TS.row p0.Else)))]), .fresh, .fresh, .fresh, .fresh, .fresh, .fresh, .fresh, .fresh, .fresh, .fresh]) ?_ ?_
   · refine Af ?_
     unfold AA1
     refine Bh ?_
     unfold Aj1
     refine AA (e_t (Ad rfl h1)) (by rfl) ?_
     refine Ao (e_t eh) (gx 0 rfl) (by rfl) ?_
     refine Ap (e_t eh) e_c (Ci ?_)
     refine Ab (e_t eh) ?_
     refine Ar eh hr (fun hr => ?_) (fun hr => ?_)
     · refine Ah eh (Ah (em rfl eh) (Ah (Ac rfl eh) (Am (e_t (Ac rfl (em rfl eh))) e_c (Aa ?_))))
       refine Bh ?_
       unfold SR
       refine Ab (e_t eh) (Ah eh (Ah (em rfl eh) (Ah (Ac rfl eh) (Am (e_t (Ac rfl (em rfl eh))) e_c (Aa ?_)))))
       unfold Lu
       refine Ab (e_t eh) (Aa (Ae ?_))
       exact ⟨true, hr, (Ai rfl (Ac rfl (em rfl h1))), (Ak rfl (Ad rfl (Ac rfl (em rfl eh)))), eh, rfl⟩
     refine Aj eh ?_
     refine AA (e_t (Ak rfl (em rfl h1))) (by rfl) ?_
     refine Aj (em rfl eh) ?_
     refine Ao (e_t eh) (gx 0 rfl) (by rfl) ?_
     refine Aj (Ac rfl eh) ?_
     refine Ap (e_t eh) e_c (Ci ?_)
     refine An (e_t (Ac rfl (em rfl eh))) (e_t eh) (Aa ?_)
     refine Bh ?_
     unfold SR
     refine Ab (e_t eh) ?_
     refine Ar eh hr (fun hr => ?_) (fun hr => ?_)
     · refine Ah eh (Ah (em rfl eh) (Ah (Ac rfl eh) (Am (e_t (Ac rfl (em rfl eh))) e_c (Aa ?_))))
       unfold Lu
       refine Ab (e_t eh) (Aa (Ae ?_))
       exact ⟨true, hr, (Ai rfl (Ad rfl h1)), (Ak rfl (Ad rfl (Ad rfl eh))), eh, rfl⟩
     refine Aj eh ?_
     refine AA (e_t (Ak rfl (Ad rfl (Ac rfl (em rfl h1))))) (by rfl) ?_
     refine Aj (em rfl eh) ?_
     refine Ao (e_t eh) (gx 0 rfl) (by rfl) ?_
     refine Aj (Ac rfl eh) ?_
     refine Ap (e_t eh) e_c (Ci ?_)
     refine An (e_t (Ac rfl (em rfl eh))) (e_t eh) (Aa ?_)
     unfold Lu
     refine Ab (e_t eh) (Aa (Ae ?_))
     exact ⟨(decide (p0.Op = (10 : Int))), hr, (Ai rfl (Ad rfl h1)), (Ak rfl (Ad rfl (Ad rfl eh))), eh, rfl⟩
   rintro f st' ⟨v25, hr, h1, h7, h8, rfl⟩
   rw [H2] at hr
   refine BL (fun f st' => Ig p0 s_RBlocks n = some r ∧ f 1 = (.ptr (st.length + 0) 0) ∧ f 7 = (.d (.int .i64 (p0.Exprs.length : Int))) ∧ st' = st ++ [(.box [(.d (.int .i64 p0.Op)), (.d (.str p0.Name)), (.d (.str p0.Src)), (.d (.int .i64 p0.N)), (.d (.sl (List.map rS p0.Cols))), (.d (.sl (List.map TE.row p0.Exprs))), (.d (.sl (List.map TS.row p0.Body))), (.d (.sl (List.map TS.row p0.Else)))]), .fresh, .fresh, .fresh, .fresh, .fresh, .fresh, .fresh, .fresh, .fresh, .fresh]) ?_ ?_
   · refine Al (Af ?_)
     unfold Aw8
     refine Ba (fun f st' => ∃ (v26 : Bool), Kw p0 s_RBlocks n v25 v26 = some r ∧ f 1 = (.ptr (st.length + 0) 0) ∧ f 7 = (.d (.int .i64 (p0.Exprs.length : Int))) ∧ f 8 = (.d (.bool v25)) ∧ f 167 = (.d (.bool v26)) ∧ st' = st ++ [(.box [(.d (.int .i64 p0.Op)), (.d (.str p0.Name)), (.d (.str p0.Src)), (.d (.int .i64 p0.N)), (.d (.sl (List.map rS p0.Cols))), (.d (.sl (List.map TE.row p0.Exprs))), (.d (.sl (List.map TS.row p0.Body))), (.d (.sl (List.map TS.row p0.Else)))]), .fresh, .fresh, .fresh, .fresh, .fresh, .fresh, .fresh, .fresh, .fresh, .fresh]) ?_ ?_
     · unfold Aj4
       refine Ab (e_t h8) (Ab (e_t eh) ?_)
       refine Ar eh hr (fun hr => ?_) (fun hr => ?_)
       rotate_left
       · refine Ah eh (Ah (em rfl eh) (Ah (Ac rfl eh) ?_))
         refine A6 eh ?_
         refine A6 (em rfl eh) ?_
         refine Ah (Ad rfl (em rfl eh)) (An (e_t (Ad rfl (Ac rfl eh))) e_c (Aa ?_))
         exact ⟨false, hr, (Ak rfl (Ac rfl h1)), (Ak rfl (Ac rfl h7)), (Ak rfl (Ac rfl h8)), eh, rfl⟩
       refine Aj eh (Ab (e_t (Ac rfl (em rfl h7))) (Aj (em rfl eh) ?_))
       refine Ap (e_t eh) e_c (Da ?_)
       refine Aj (Ac rfl eh) (Ab (e_t eh) ?_)
       refine Ar eh hr (fun hr => ?_) (fun hr => ?_)
       · refine Ah eh (Ah (em rfl eh) (Aj (Ad rfl (Ac rfl eh)) (Am (e_t (Ac rfl eh)) e_c (Am (e_t (Ad rfl (Ac rfl (em rfl eh)))) (e_t eh) (Aa ?_)))))
         exact ⟨true, hr, (Ak rfl (Ac rfl (em rfl h1))), (Ak rfl (Ac rfl (em rfl h7))), (Ak rfl (Ac rfl (em rfl h8))), eh, rfl⟩
       refine Aj eh (Ab (e_t (Ad rfl (Ac rfl (em rfl h7)))) (Aj (em rfl eh) ?_))
       refine Ap (e_t eh) e_c (B6 ?_)
       refine Aj (Ad rfl (Ac rfl eh)) (An (e_t (Ac rfl eh)) (e_t eh) (Am (e_t (Ad rfl (Ac rfl (em rfl eh)))) (e_t eh) (Aa ?_)))
       exact ⟨(decide ((8 : Int) < (p0.Exprs.length : Int))), hr, (Ak rfl (Ac rfl (em rfl h1))), (Ak rfl (Ac rfl (em rfl h7))), (Ak rfl (Ac rfl (em rfl h8))), eh, rfl⟩
     rintro f st' ⟨v26, hr, h1, h7, h8, h167, rfl⟩
     rw [Kw] at hr
     unfold Ac5
     refine Ab (e_t h167) ?_
     refine Ar eh hr (fun hr => ?_) (fun hr => ?_)
     · refine Ah eh (Ah (em rfl eh) (Ah (Ac rfl eh) ?_))
       refine A6 eh ?_
       refine A6 (em rfl eh) ?_
       refine A6 (Ac rfl eh) ?_
       refine A6 (Ac rfl (em rfl eh)) ?_
       refine A6 (Ad rfl eh) ?_
       refine A6 (Ad rfl (em rfl eh)) ?_
       refine Ah (Ak rfl (em rfl eh)) (Am (e_t (Ak rfl (Ac rfl eh))) e_c (Aa (Ae ?_)))
       refine DC (e_t eh) ?_
       refine Al (Af ?_)
       unfold Yj
       refine Ab e_c (Aa (Ae (AH (Ay ?_))))
       cases hr
       exact A5 (AE eh AG) (AK AF v_d) (As hwf) h
     refine Aj eh (Ab (e_t (Ac rfl h8)) (Aj (em rfl eh) (CN (e_t eh) (Aj (Ac rfl eh) (Ab (e_t eh) ?_)))))
     refine Ar eh hr (fun hr => ?_) (fun hr => ?_)
     rotate_left
     · refine Ah eh (Ah (em rfl eh) (Ah (Ac rfl eh) (Ah (Ac rfl (em rfl eh)) (Ah (Ad rfl eh) (Ah (Ad rfl (em rfl eh)) ?_)))))
       refine Aj (Ak rfl (Ac rfl eh)) (An (e_t (Ad rfl (Ac rfl eh))) e_c (An (e_t (Ak rfl (Ac rfl (em rfl eh)))) (e_t eh) (Aa (Ae ?_))))
       refine FO (e_t eh) ?_
       refine AM (Ae ?_)
       exact ⟨hr, (Ak rfl (Ad rfl (Ac rfl h1))), (Ak rfl (Ad rfl (Ac rfl h7))), rfl⟩
     refine Aj eh (Ab (e_t (Ad rfl (Ac rfl h7))) (Aj (em rfl eh) ?_))
     refine AA (e_t (Ad rfl (Ac rfl (em rfl h1)))) (by rfl) ?_
     refine Aj (Ac rfl eh) ?_
     refine Ao (e_t eh) (gx 0 rfl) (by rfl) ?_
     refine Aj (Ac rfl (em rfl eh)) ?_
     refine Bc (row := rS) (AN (e_t eh) Bo) ?_
     refine Aj (Ad rfl eh) ?_
     refine Ap e_c (e_t eh) (B4 ?_)
     refine Aj (Ad rfl (em rfl eh)) ?_
     refine Ap (e_t (Ad rfl eh)) (e_t eh) (Ad6 ?_)
     refine Aj (Ak rfl (Ac rfl eh)) (Am (e_t (Ad rfl (Ac rfl eh))) (e_t eh) (An (e_t (Ak rfl (Ac rfl (em rfl eh)))) (e_t eh) (Aa (Ae ?_))))
     refine AB (e_t eh) hr (fun hr => ?_) (fun hr => ?_)
     rotate_left
     · refine AM (Ae ?_)
       exact ⟨hr, (Ak rfl (Ad rfl (Ac rfl h1))), (Ak rfl (Ad rfl (Ac rfl h7))), rfl⟩
     refine Al (Af ?_)
     unfold Yj
     refine Ab e_c (Aa (Ae (AH (Ay ?_))))
     cases hr
     exact A5 (AE eh AG) (AK AF v_d) (As hwf) h
   rintro f st' ⟨hr, h1, h7, rfl⟩
   rw [Ig] at hr
   refine BL (fun f st' => MT p0 s_RBlocks = some r ∧ f 1 = (.ptr (st.length + 0) 0) ∧ st' = st ++ [(.box [(.d (.int .i64 p0.Op)), (.d (.str p0.Name)), (.d (.str p0.Src)), (.d (.int .i64 p0.N)), (.d (.sl (List.map rS p0.Cols))), (.d (.sl (List.map TE.row p0.Exprs))), (.d (.sl (List.map TS.row p0.Body))), (.d (.sl (List.map TS.row p0.Else)))]), .fresh, .fresh, .fresh, .fresh, .fresh, .fresh, .fresh, .fresh, .fresh, .fresh]) ?_ ?_
   rotate_left
   · rintro f st' ⟨hr, h1, rfl⟩
     rw [MT] at hr
     refine Al (Af ?_)
     unfold AM8
     refine Bh ?_
     unfold Af5
     refine AA (e_t h1) (by rfl) ?_
     refine Ao (e_t eh) (gx 0 rfl) (by rfl) ?_
     obtain ⟨v30, hc_v30, hr⟩ := bind_some hr
     refine AY (Az (e_t eh) AF A1) ?_
     refine H_s_RBlocks p0.Body hc_v30 ?_
     refine Ab (e_t eh) ?_
     refine Ar eh hr (fun hr => ?_) (fun hr => ?_)
     rotate_left
     · refine Ah eh (Ah (em rfl eh) (Ah (Ac rfl eh) (An (e_t (Ac rfl (em rfl eh))) e_c (Aa ?_))))
       unfold SP
       refine Ab (e_t eh) (Aa (Ae (AH ?_)))
       cases hr
       exact A5 (AE eh AG) (AK AF v_d) (As hwf) h
     refine Aj eh ?_
     refine AA (e_t (Ad rfl (em rfl h1))) (by rfl) ?_
     refine Aj (em rfl eh) ?_
     refine Ao (e_t eh) (gx 0 rfl) (by rfl) ?_
     refine Aj (Ac rfl eh) ?_
     obtain ⟨v31, hc_v31, hr⟩ := bind_some hr
     refine AY (Az (e_t eh) AF A1) ?_
     refine H_s_RBlocks p0.Else hc_v31 ?_
     refine Am (e_t (Ac rfl (em rfl eh))) (e_t eh) (Aa ?_)
     unfold SP
     refine Ab (e_t eh) (Aa (Ae (AH ?_)))
     cases hr
     exact A5 (AE eh AG) (AK AF v_d) (As hwf) h
   refine Al (Af ?_)
   unfold Ay3
   refine Ab e_c (Aa (Ae ?_))
   refine A3 ?_
   refine Cy (fun m f st' => ∃ (v27 : Int), E9 p0 s_RBlocks n m v27 = some r ∧ f 1 = (.ptr (st.length + 0) 0) ∧ f 7 = (.d (.int .i64 (p0.Exprs.length : Int))) ∧ f 9 = (.d (.int .i64 v27)) ∧ st' = st ++ [(.box [(.d (.int .i64 p0.Op)), (.d (.str p0.Name)), (.d (.str p0.Src)), (.d (.int .i64 p0.N)), (.d (.sl (List.map rS p0.Cols))), (.d (.sl (List.map TE.row p0.Exprs))), (.d (.sl (List.map TS.row p0.Body))), (.d (.sl (List.map TS.row p0.Else)))]), .fresh, .fresh, .fresh, .fresh, .fresh, .fresh, .fresh, .fresh, .fresh, .fresh]) n (Ghost.refl _) ⟨(0 : Int), hr, (em rfl h1), (em rfl h7), eh, rfl⟩ ?_
   rintro m f st' ⟨v27, hr, h1, h7, h9, rfl⟩
   cases m with
   | zero => cases hr
   | succ m_0 =>
     rw [E9] at hr
     generalize hrec_0 : E9 p0 s_RBlocks n m_0 = q0 at hr
     rw [Rz] at hr
     unfold AL0
     refine Al (Al (Af ?_))
     unfold AH9
     refine Ab (e_t h9) (Ab (e_t (em rfl h7)) ?_)
     refine Ap (e_t (em rfl eh)) (e_t eh) (Da ?_)
     refine Aa (Ae ?_)
     refine AB (e_t eh) hr (fun hr => ?_) (fun hr => ?_)
     rotate_left
     · refine Dj ?_
       refine A8 ?_
       refine A8 ?_
       refine Fo ?_
       refine Ae ?_
       exact ⟨hr, (Ac rfl (em rfl h1)), rfl⟩
     refine AM (Ae (Al ?_))
     refine A3 ?_
     refine Al (Af ?_)
     unfold AC8
     refine AA (e_t (Ac rfl (em rfl h1))) (by rfl) ?_
     refine Ao (e_t eh) (gx 0 rfl) (by rfl) ?_
     refine Ab (e_t (Ad rfl (em rfl h9))) ?_
     refine Bt (row := TE.row) (AN (e_t (em rfl eh)) Bo) (e_t eh) hr TE.row_eq (fun _ => rfl) (fun v28 hr => ?_)
     refine Ft (e_t eh) (Nat.le_of_ble_eq_true rfl) (by rfl) ?_
     obtain ⟨v29, hc_v29, hr⟩ := bind_some hr
     refine AY (Az (e_t eh) (Cw (Aq f_d (Aq f_d (Aq f_d (Aq f_d (Aq f_d (Aq f_d Dg))))))) A1) ?_
     refine Bu1 n v28 hc_v29 ?_
     refine CN (e_t eh) (Aa (Ae ?_))
     refine AB (e_t eh) hr (fun hr => ?_) (fun hr => ?_)
     rotate_left
     · refine AM ?_
       refine BQ ?_
       refine Ae (Af ?_)
       unfold AE3
       refine Ab (e_t (Ak rfl (Ac rfl h9))) ?_
       refine Ap (e_t eh) e_c (B4 ?_)
       refine Ab (e_t eh) (Aa (Ae ?_))
       exact ⟨m_0, _, Nat.lt_succ_self m_0, Ghost.refl _, (IntKind.wrap .i64 (v27 + (1 : Int))), (by rw [hrec_0]; exact hr), (Ak rfl (Ad rfl (em rfl h1))), (Ak rfl (Ad rfl (em rfl h7))), eh, rfl⟩
     refine Al (Af ?_)
     unfold Aw2
     refine Ab e_c (Aa (Ae (AH ?_)))
     refine Bw ?_
     refine Ay (Ay ?_)
     refine Bw ?_
     refine Ay ?_
     cases hr
     exact A5 (AE eh AG) (AK AF v_d) (As hwf) h
 refine Al ?_
 refine IM (k := 7) rfl rfl ?_
 unfold AU7
 refine Ag (R := []) rfl rfl (Ab (e_t h4) (Aa ?_))
 obtain ⟨v11, hc_v11, hr⟩ := bind_some hr
 refine F9 (Az (e_t eh) AF (Az e_c AF A1)) (B2 (e_t eh) (by rfl) (B2 e_c (by rfl) F1)) (fun st2 => VR n v2 (99 : Int) hc_v11 ⟨rfl, rfl⟩) ?_
 refine Ag (R := []) rfl rfl (AA (e_t (Ac rfl h1)) (by rfl) (Aa ?_))
 refine Ag rfl (BM (e_t eh)) (Ao (e_t eh) (gx 0 rfl) (by rfl) (Aa ?_))
 refine Ag rfl (TU (e_t eh)) (Bc (row := rS) (AN (e_t eh) Bo) (Aa ?_))
 refine Ag (R := []) rfl rfl (Ap (e_t eh) e_c (B6 (Aa ?_)))
 refine Ag (R := []) rfl rfl (Ca8 (e_t (Ad rfl eh)) (e_t eh) (Aa ?_))
 refine Ag (R := []) rfl rfl (Ab (e_t eh) (Aa ?_))
 refine CC eh hr (fun hr => ?_) (fun hr => ?_)
 · refine Av eh (Av (em rfl eh) (Av (Ac rfl eh) (Av (Ac rfl (em rfl eh)) ?_)))
   refine Ag (R := []) rfl rfl (Am (e_t (Ad rfl eh)) e_c (Aa ?_))
   refine Ag (R := []) rfl rfl (Ab (e_t eh) (Aa ?_))
   refine Av eh (Av (em rfl eh) (Av (Ac rfl eh) (Av (Ac rfl (em rfl eh)) ?_)))
   refine AV eh ?_
   refine AV (em rfl eh) ?_
   refine AV (Ac rfl eh) ?_
   refine Av (Ad rfl (Ac rfl (em rfl eh))) ?_
   refine Ag (R := []) rfl rfl (Am (e_t (Ad rfl (Ad rfl eh))) e_c (Aa ?_))
   refine Ag (R := []) rfl rfl (Ab (e_t eh) (Aa ?_))
   refine Av eh (Av (em rfl eh) (Av (Ac rfl eh) ?_))
   refine Ag (R := []) rfl rfl (Am (e_t (Ac rfl (em rfl eh))) e_c (Aa ?_))
   refine Ag (R := []) rfl rfl (Ab (e_t eh) (Aa ?_))
   refine Av eh (Av (em rfl eh) (Av (Ac rfl eh) ?_))
   refine Ag (R := []) rfl rfl (Am (e_t (Ac rfl (em rfl eh))) e_c (Aa ?_))
   refine Ag (R := []) rfl rfl (Ab (e_t eh) (Aa ?_))
   refine Av eh (Av (em rfl eh) (Av (Ac rfl eh) (Av (Ac rfl (em rfl eh)) ?_)))
   refine AV eh ?_
   refine AV (em rfl eh) ?_
   refine AV (Ac rfl eh) ?_
   refine AV (Ac rfl (em rfl eh)) ?_
   refine Av (Ad rfl (Ad rfl eh)) ?_
   refine Ag (R := []) rfl rfl (Am (e_t (Ak rfl (em rfl eh))) e_c (Aa ?_))
   refine Ag (R := []) rfl rfl (Ab (e_t eh) (Aa ?_))
   refine Av eh (Av (em rfl eh) (Av (Ac rfl eh) (Av (Ac rfl (em rfl eh)) ?_)))
   refine AV eh ?_
   refine AV (em rfl eh) ?_
   refine AV (Ac rfl eh) ?_
   refine AV (Ac rfl (em rfl eh)) ?_
   refine Av (Ad rfl (Ad rfl eh)) ?_
   refine Ag (R := []) rfl rfl (Am (e_t (Ak rfl (em rfl eh))) e_c (Aa ?_))
   refine BO ?_
   refine ⟨by simp [Ch, okPairs, BP, FY], ?_⟩
   refine Ae ?_
   refine DC (e_t eh) ?_
   refine Al (Af ?_)
   unfold Df
   refine Ab e_c (Aa (Ae (AH (Ay ?_))))
   cases hr
   exact A5 (AE eh AG) (AK AF v_d) (As hwf) h
 refine AT eh ?_
 refine Ag (R := []) rfl rfl (AA (e_t (Ak rfl (em rfl h1))) (by rfl) (Aa ?_))
 refine AT (em rfl eh) ?_
 refine Ag rfl (BM (e_t eh)) (Ao (e_t eh) (gx 0 rfl) (by rfl) (Aa ?_))
 refine AT (Ac rfl eh) ?_
 refine Ag rfl (TU (e_t eh)) (Bc (row := rS) (AN (e_t eh) Bo) (Aa ?_))
 refine AT (Ac rfl (em rfl eh)) ?_
 refine Ag (R := []) rfl rfl (Ap (e_t eh) e_c (B6 (Aa ?_)))
 refine Ag (R := []) rfl rfl (An (e_t (Ad rfl eh)) (e_t eh) (Aa ?_))
 refine Ag (R := []) rfl rfl (Ab (e_t eh) (Aa ?_))
 refine CC eh hr (fun hr => ?_) (fun hr => ?_)
 · refine Av eh (Av (em rfl eh) (Av (Ac rfl eh) (Av (Ac rfl (em rfl eh)) ?_)))
   refine AV eh ?_
   refine AV (em rfl eh) ?_
   refine AV (Ac rfl eh) ?_
   refine Av (Ad rfl (Ac rfl (em rfl eh))) ?_
   refine Ag (R := []) rfl rfl (Am (e_t (Ad rfl (Ad rfl eh))) e_c (Aa ?_))
   refine Ag (R := []) rfl rfl (Ab (e_t eh) (Aa ?_))
   refine Av eh (Av (em rfl eh) (Av (Ac rfl eh) ?_))
   refine Ag (R := []) rfl rfl (Am (e_t (Ac rfl (em rfl eh))) e_c (Aa ?_))
   refine Ag (R := []) rfl rfl (Ab (e_t eh) (Aa ?_))
   refine Av eh (Av (em rfl eh) (Av (Ac rfl eh) ?_))
   refine Ag (R := []) rfl rfl (Am (e_t (Ac rfl (em rfl eh))) e_c (Aa ?_))
   refine Ag (R := []) rfl rfl (Ab (e_t eh) (Aa ?_))
   refine Av eh (Av (em rfl eh) (Av (Ac rfl eh) (Av (Ac rfl (em rfl eh)) ?_)))
   refine AV eh ?_
   refine AV (em rfl eh) ?_
   refine AV (Ac rfl eh) ?_
   refine AV (Ac rfl (em rfl eh)) ?_
   refine Av (Ad rfl (Ad rfl eh)) ?_
   refine Ag (R := []) rfl rfl (Am (e_t (Ak rfl (em rfl eh))) e_c (Aa ?_))
   refine Ag (R := []) rfl rfl (Ab (e_t eh) (Aa ?_))
   refine Av eh (Av (em rfl eh) (Av (Ac rfl eh) (Av (Ac rfl (em rfl eh)) ?_)))
   refine AV eh ?_
   refine AV (em rfl eh) ?_
   refine AV (Ac rfl eh) ?_
   refine AV (Ac rfl (em rfl eh)) ?_
   refine Av (Ad rfl (Ad rfl eh)) ?_
   refine Ag (R := []) rfl rfl (Am (e_t (Ak rfl (em rfl eh))) e_c (Aa ?_))
   refine BO ?_
   refine ⟨by simp [Ch, okPairs, BP, FY], ?_⟩
   refine Ae ?_
   refine DC (e_t eh) ?_
   refine Al (Af ?_)
   unfold Df
   refine Ab e_c (Aa (Ae (AH (Ay ?_))))
   cases hr
   exact A5 (AE eh AG) (AK AF v_d) (As hwf) h
 refine AT eh ?_
 refine Ag (R := []) rfl rfl (Ab (e_t (Ak rfl (Ad rfl (Ad rfl h4)))) (Aa ?_))
 refine AT (em rfl eh) ?_
 obtain ⟨v12, hc_v12, hr⟩ := bind_some hr
 refine F9 (Az (e_t eh) AF (Az e_c AF A1)) (B2 (e_t eh) (by rfl) (B2 e_c (by rfl) F1)) (fun st2 => VR n v2 (78 : Int) hc_v12 ⟨rfl, rfl⟩) ?_
 refine AT (Ac rfl eh) ?_
 refine Ag (R := []) rfl rfl (CN (e_t eh) (Aa ?_))
 refine AT (Ac rfl (em rfl eh)) ?_
 refine Ag (R := []) rfl rfl (Ab (e_t eh) (Aa ?_))
 refine CC eh hr (fun hr => ?_) (fun hr => ?_)
 rotate_left
 · refine Av eh (Av (em rfl eh) (Av (Ac rfl eh) (AT (Ad rfl (Ad rfl eh)) ?_)))
   refine Ag (R := []) rfl rfl (An (e_t (Ac rfl (em rfl eh))) e_c (Aa ?_))
   refine Ag (R := []) rfl rfl (An (e_t (Ak rfl (em rfl eh))) (e_t eh) (Aa ?_))
   refine Ag (R := []) rfl rfl (Ab (e_t eh) (Aa ?_))
   refine AT eh ?_
   refine Ag (R := []) rfl rfl (AA (e_t (Ai rfl (Ak rfl (Ac rfl (em rfl h1))))) (by rfl) (Aa ?_))
   refine AT (em rfl eh) ?_
   refine Ag rfl (BM (e_t eh)) (Ao (e_t eh) (gx 0 rfl) (by rfl) (Aa ?_))
   refine AT (Ac rfl eh) ?_
   refine Ag (R := []) rfl rfl (Ap (e_t eh) e_c (Da (Aa ?_)))
   refine Ag (R := []) rfl rfl (An (e_t (Ac rfl (em rfl eh))) (e_t eh) (Aa ?_))
   refine Ag (R := []) rfl rfl (Ab (e_t eh) (Aa ?_))
   refine CC eh hr (fun hr => ?_) (fun hr => ?_)
   · refine Av eh (Av (em rfl eh) (Av (Ac rfl eh) ?_))
     refine Ag (R := []) rfl rfl (Am (e_t (Ac rfl (em rfl eh))) e_c (Aa ?_))
     refine Ag (R := []) rfl rfl (Ab (e_t eh) (Aa ?_))
     refine Av eh (Av (em rfl eh) (Av (Ac rfl eh) (Av (Ac rfl (em rfl eh)) ?_)))
     refine AV eh ?_
     refine AV (em rfl eh) ?_
     refine AV (Ac rfl eh) ?_
     refine AV (Ac rfl (em rfl eh)) ?_
     refine Av (Ad rfl (Ad rfl eh)) ?_
     refine Ag (R := []) rfl rfl (Am (e_t (Ak rfl (em rfl eh))) e_c (Aa ?_))
     refine Ag (R := []) rfl rfl (Ab (e_t eh) (Aa ?_))
     refine Av eh (Av (em rfl eh) (Av (Ac rfl eh) (Av (Ac rfl (em rfl eh)) ?_)))
     refine AV eh ?_
     refine AV (em rfl eh) ?_
     refine AV (Ac rfl eh) ?_
     refine AV (Ac rfl (em rfl eh)) ?_
     refine Av (Ad rfl (Ad rfl eh)) ?_
     refine Ag (R := []) rfl rfl (Am (e_t (Ak rfl (em rfl eh))) e_c (Aa ?_))
     refine BO ?_
     refine ⟨by simp [Ch, okPairs, BP, FY], ?_⟩
     refine Ae ?_
     refine DC (e_t eh) ?_
     refine Al (Af ?_)
     unfold Df
     refine Ab e_c (Aa (Ae (AH (Ay ?_))))
     cases hr
     exact A5 (AE eh AG) (AK AF v_d) (As hwf) h
   refine AT eh ?_
   refine Ag (R := []) rfl rfl (AA (e_t (Ai rfl (Ai rfl (em rfl h1)))) (by rfl) (Aa ?_))
   refine AT (em rfl eh) ?_
   refine Ag rfl (BM (e_t eh)) (Ao (e_t eh) (gx 0 rfl) (by rfl) (Aa ?_))
   refine AT (Ac rfl eh) ?_
   refine Ag (R := []) rfl rfl (Ap (e_t eh) e_c (B6 (Aa ?_)))
   refine Ag (R := []) rfl rfl (An (e_t (Ac rfl (em rfl eh))) (e_t eh) (Aa ?_))
   refine Ag (R := []) rfl rfl (Ab (e_t eh) (Aa ?_))
   refine CC eh hr (fun hr => ?_) (fun hr => ?_)
   · refine Av eh (Av (em rfl eh) (Av (Ac rfl eh) (Av (Ac rfl (em rfl eh)) ?_)))
     refine AV eh ?_
     refine AV (em rfl eh) ?_
     refine AV (Ac rfl eh) ?_
     refine AV (Ac rfl (em rfl eh)) ?_
     refine Av (Ad rfl (Ad rfl eh)) ?_
     refine Ag (R := []) rfl rfl (Am (e_t (Ak rfl (em rfl eh))) e_c (Aa ?_))
     refine Ag (R := []) rfl rfl (Ab (e_t eh) (Aa ?_))
     refine Av eh (Av (em rfl eh) (Av (Ac rfl eh) (Av (Ac rfl (em rfl eh)) ?_)))
     refine AV eh ?_
     refine AV (em rfl eh) ?_
     refine AV (Ac rfl eh) ?_
     refine AV (Ac rfl (em rfl eh)) ?_
     refine Av (Ad rfl (Ad rfl eh)) ?_
     refine Ag (R := []) rfl rfl (Am (e_t (Ak rfl (em rfl eh))) e_c (Aa ?_))
     refine BO ?_
     refine ⟨by simp [Ch, okPairs, BP, FY], ?_⟩
     refine Ae ?_
     refine DC (e_t eh) ?_
     refine Al (Af ?_)
     unfold Df
     refine Ab e_c (Aa (Ae (AH (Ay ?_))))
     cases hr
     exact A5 (AE eh AG) (AK AF v_d) (As hwf) h
   refine AT eh ?_
   refine Ag (R := []) rfl rfl (Ab (e_t (Ai rfl (Ai rfl (Ad rfl (Ac rfl (em rfl h4)))))) (Aa ?_))
   refine AT (em rfl eh) ?_
   obtain ⟨v16, hc_v16, hr⟩ := bind_some hr
   refine F9 (Az (e_t eh) AF (Az e_c AF A1)) (B2 (e_t eh) (by rfl) (B2 e_c (by rfl) F1)) (fun st2 => VR n v2 (98 : Int) hc_v16 ⟨rfl, rfl⟩) ?_
   refine AT (Ac rfl eh) ?_
   refine Ag (R := []) rfl rfl (CN (e_t eh) (Aa ?_))
   refine AT (Ac rfl (em rfl eh)) ?_
   refine Ag (R := []) rfl rfl (Ab (e_t eh) (Aa ?_))
   refine CC eh hr (fun hr => ?_) (fun hr => ?_)
   rotate_left
   · refine Av eh (Av (em rfl eh) (Av (Ac rfl eh) (Av (Ac rfl (em rfl eh)) (AT (Ak rfl (em rfl eh)) ?_))))
     refine Ag (R := []) rfl rfl (An (e_t (Ad rfl eh)) e_c (Aa ?_))
     refine Ag (R := []) rfl rfl (An (e_t (Ak rfl (Ac rfl eh))) (e_t eh) (Aa ?_))
     refine Ag (R := []) rfl rfl (Ab (e_t eh) (Aa ?_))
     refine AT eh ?_
     refine Ag (R := []) rfl rfl (Ab (e_t (Ai rfl (Ai rfl (Ai rfl (Ac rfl (em rfl h4)))))) (Aa ?_))
     refine AT (em rfl eh) ?_
     obtain ⟨v18, hc_v18, hr⟩ := bind_some hr
     refine F9 (Az (e_t eh) AF (Az e_c AF A1)) (B2 (e_t eh) (by rfl) (B2 e_c (by rfl) F1)) (fun st2 => VR n v2 (101 : Int) hc_v18 ⟨rfl, rfl⟩) ?_
     refine AT (Ac rfl eh) ?_
     refine Ag (R := []) rfl rfl (CN (e_t eh) (Aa ?_))
     refine AT (Ac rfl (em rfl eh)) ?_
     refine Ag (R := []) rfl rfl (Ab (e_t eh) (Aa ?_))
     refine CC eh hr (fun hr => ?_) (fun hr => ?_)
     rotate_left
     · refine Av eh (Av (em rfl eh) (Av (Ac rfl eh) (Av (Ac rfl (em rfl eh)) (AT (Ak rfl (em rfl eh)) ?_))))
       refine Ag (R := []) rfl rfl (An (e_t (Ad rfl eh)) e_c (Aa ?_))
       refine Ag (R := []) rfl rfl (An (e_t (Ak rfl (Ac rfl eh))) (e_t eh) (Aa ?_))
       refine BO ?_
       refine ⟨by simp [Ch, okPairs, BP, FY], ?_⟩
       refine Ae ?_
       refine FO (e_t eh) ?_
       refine AM (Ae ?_)
       exact ⟨hr, (Ai rfl (Ai rfl (Ai rfl (Ak rfl (Ad rfl (Ac rfl h1)))))), rfl⟩
     refine AT eh ?_
     refine Ag (R := []) rfl rfl (AA (e_t (Ai rfl (Ai rfl (Ai rfl (Ad rfl (Ad rfl h1)))))) (by rfl) (Aa ?_))
     refine AT (em rfl eh) ?_
     refine Ag rfl (BM (e_t eh)) (Ao (e_t eh) (gx 0 rfl) (by rfl) (Aa ?_))
     refine AT (Ac rfl eh) ?_
     refine Ag rfl (TU (e_t eh)) (Bc (row := TS.row) (AN (e_t eh) Bo) (Aa ?_))
     refine AT (Ac rfl (em rfl eh)) ?_
     refine Ag (R := []) rfl rfl (Ap (e_t eh) e_c (B6 (Aa ?_)))
     refine AT (Ak rfl (em rfl eh)) ?_
     refine Ag (R := []) rfl rfl (Am (e_t (Ad rfl eh)) (e_t eh) (Aa ?_))
     refine Ag (R := []) rfl rfl (An (e_t (Ak rfl (Ac rfl eh))) (e_t eh) (Aa ?_))
     refine BO ?_
     refine ⟨by simp [Ch, okPairs, BP, FY], ?_⟩
     refine Ae ?_
     refine AB (e_t eh) hr (fun hr => ?_) (fun hr => ?_)
     rotate_left
     · refine AM (Ae ?_)
       exact ⟨hr, (Ai rfl (Ai rfl (Ai rfl (Ak rfl (Ad rfl (Ac rfl h1)))))), rfl⟩
     refine Al (Af ?_)
     unfold Df
     refine Ab e_c (Aa (Ae (AH (Ay ?_))))
     cases hr
     exact A5 (AE eh AG) (AK AF v_d) (As hwf) h
   refine AT eh ?_
   refine Ag (R := []) rfl rfl (AA (e_t (Ai rfl (Ai rfl (Ak rfl (Ad rfl h1))))) (by rfl) (Aa ?_))
   refine AT (em rfl eh) ?_
   refine Ag rfl (BM (e_t eh)) (Ao (e_t eh) (gx 0 rfl) (by rfl) (Aa ?_))
   refine AT (Ac rfl eh) ?_
   refine Ag rfl (TU (e_t eh)) (Bc (row := TS.row) (AN (e_t eh) Bo) (Aa ?_))
   refine AT (Ac rfl (em rfl eh)) ?_
   refine Ag (R := []) rfl rfl (Ap (e_t eh) e_c (B6 (Aa ?_)))
   refine AT (Ak rfl (em rfl eh)) ?_
   refine Ag (R := []) rfl rfl (Am (e_t (Ad rfl eh)) (e_t eh) (Aa ?_))
   refine Ag (R := []) rfl rfl (An (e_t (Ak rfl (Ac rfl eh))) (e_t eh) (Aa ?_))
   refine Ag (R := []) rfl rfl (Ab (e_t eh) (Aa ?_))
   refine CC eh hr (fun hr => ?_) (fun hr => ?_)
   · refine Av eh (Av (em rfl eh) (Av (Ac rfl eh) (Av (Ac rfl (em rfl eh)) ?_)))
     refine AV eh ?_
     refine AV (em rfl eh) ?_
     refine AV (Ac rfl eh) ?_
     refine AV (Ac rfl (em rfl eh)) ?_
     refine Av (Ad rfl (Ad rfl eh)) ?_
     refine Ag (R := []) rfl rfl (Am (e_t (Ak rfl (em rfl eh))) e_c (Aa ?_))
     refine BO ?_
     refine ⟨by simp [Ch, okPairs, BP, FY], ?_⟩
     refine Ae ?_
     refine DC (e_t eh) ?_
     refine Al (Af ?_)
     unfold Df
     refine Ab e_c (Aa (Ae (AH (Ay ?_))))
     cases hr
     exact A5 (AE eh AG) (AK AF v_d) (As hwf) h
   refine AT eh ?_
   refine Ag (R := []) rfl rfl (Ab (e_t (Ai rfl (Ai rfl (Ai rfl (Ad rfl h4))))) (Aa ?_))
   refine AT (em rfl eh) ?_
   obtain ⟨v17, hc_v17, hr⟩ := bind_some hr
   refine F9 (Az (e_t eh) AF (Az e_c AF A1)) (B2 (e_t eh) (by rfl) (B2 e_c (by rfl) F1)) (fun st2 => VR n v2 (101 : Int) hc_v17 ⟨rfl, rfl⟩) ?_
   refine AT (Ac rfl eh) ?_
   refine Ag (R := []) rfl rfl (CN (e_t eh) (Aa ?_))
   refine AT (Ac rfl (em rfl eh)) ?_
   refine Ag (R := []) rfl rfl (Ab (e_t eh) (Aa ?_))
   refine CC eh hr (fun hr => ?_) (fun hr => ?_)
   rotate_left
   · refine Av eh (Av (em rfl eh) (Av (Ac rfl eh) (Av (Ac rfl (em rfl eh)) (AT (Ak rfl (em rfl eh)) ?_))))
     refine Ag (R := []) rfl rfl (An (e_t (Ad rfl eh)) e_c (Aa ?_))
     refine Ag (R := []) rfl rfl (An (e_t (Ak rfl (Ac rfl eh))) (e_t eh) (Aa ?_))
     refine BO ?_
     refine ⟨by simp [Ch, okPairs, BP, FY], ?_⟩
     refine Ae ?_
     refine FO (e_t eh) ?_
     refine AM (Ae ?_)
     exact ⟨hr, (Ai rfl (Ai rfl (Ai rfl (Ak rfl (Ad rfl (Ac rfl (em rfl h1))))))), rfl⟩
   refine AT eh ?_
   refine Ag (R := []) rfl rfl (AA (e_t (Ai rfl (Ai rfl (Ai rfl (Ak rfl (em rfl h1)))))) (by rfl) (Aa ?_))
   refine AT (em rfl eh) ?_
   refine Ag rfl (BM (e_t eh)) (Ao (e_t eh) (gx 0 rfl) (by rfl) (Aa ?_))
   refine AT (Ac rfl eh) ?_
   refine Ag rfl (TU (e_t eh)) (Bc (row := TS.row) (AN (e_t eh) Bo) (Aa ?_))
   refine AT (Ac rfl (em rfl eh)) ?_
   refine Ag (R := []) rfl rfl (Ap (e_t eh) e_c (B6 (Aa ?_)))
   refine AT (Ak rfl (em rfl eh)) ?_
   refine Ag (R := []) rfl rfl (Am (e_t (Ad rfl eh)) (e_t eh) (Aa ?_))
   refine Ag (R := []) rfl rfl (An (e_t (Ak rfl (Ac rfl eh))) (e_t eh) (Aa ?_))
   refine BO ?_
   refine ⟨by simp [Ch, okPairs, BP, FY], ?_⟩
   refine Ae ?_
   refine AB (e_t eh) hr (fun hr => ?_) (fun hr => ?_)
   rotate_left
   · refine AM (Ae ?_)
     exact ⟨hr, (Ai rfl (Ai rfl (Ai rfl (Ak rfl (Ad rfl (Ac rfl (em rfl h1))))))), rfl⟩
   refine Al (Af ?_)
   unfold Df
   refine Ab e_c (Aa (Ae (AH (Ay ?_))))
   cases hr
   exact A5 (AE eh AG) (AK AF v_d) (As hwf) h
 refine AT eh ?_
 refine Ag (R := []) rfl rfl (AA (e_t (Ai rfl (Ad rfl (em rfl h1)))) (by rfl) (Aa ?_))
 refine AT (em rfl eh) ?_
 refine Ag rfl (BM (e_t eh)) (Ao (e_t eh) (gx 0 rfl) (by rfl) (Aa ?_))
 refine AT (Ac rfl eh) ?_
 refine Ag (R := []) rfl rfl (Ap (e_t eh) e_c (Ad6 (Aa ?_)))
 refine AT (Ad rfl (Ad rfl eh)) ?_
 refine Ag (R := []) rfl rfl (Am (e_t (Ac rfl (em rfl eh))) (e_t eh) (Aa ?_))
 refine Ag (R := []) rfl rfl (An (e_t (Ak rfl (em rfl eh))) (e_t eh) (Aa ?_))
 refine Ag (R := []) rfl rfl (Ab (e_t eh) (Aa ?_))
 refine CC eh hr (fun hr => ?_) (fun hr => ?_)
 · refine Av eh (Av (em rfl eh) (Av (Ac rfl eh) ?_))
   refine Ag (R := []) rfl rfl (Am (e_t (Ac rfl (em rfl eh))) e_c (Aa ?_))
   refine Ag (R := []) rfl rfl (Ab (e_t eh) (Aa ?_))
   refine Av eh (Av (em rfl eh) (Av (Ac rfl eh) ?_))
   refine Ag (R := []) rfl rfl (Am (e_t (Ac rfl (em rfl eh))) e_c (Aa ?_))
   refine Ag (R := []) rfl rfl (Ab (e_t eh) (Aa ?_))
   refine Av eh (Av (em rfl eh) (Av (Ac rfl eh) (Av (Ac rfl (em rfl eh)) ?_)))
   refine AV eh ?_
   refine AV (em rfl eh) ?_
   refine AV (Ac rfl eh) ?_
   refine AV (Ac rfl (em rfl eh)) ?_
   refine Av (Ad rfl (Ad rfl eh)) ?_
   refine Ag (R := []) rfl rfl (Am (e_t (Ak rfl (em rfl eh))) e_c (Aa ?_))
   refine Ag (R := []) rfl rfl (Ab (e_t eh) (Aa ?_))
   refine Av eh (Av (em rfl eh) (Av (Ac rfl eh) (Av (Ac rfl (em rfl eh)) ?_)))
   refine AV eh ?_
   refine AV (em rfl eh) ?_
   refine AV (Ac rfl eh) ?_
   refine AV (Ac rfl (em rfl eh)) ?_
   refine Av (Ad rfl (Ad rfl eh)) ?_
   refine Ag (R := []) rfl rfl (Am (e_t (Ak rfl (em rfl eh))) e_c (Aa ?_))
   refine BO ?_
   refine ⟨by simp [Ch, okPairs, BP, FY], ?_⟩
   refine Ae ?_
   refine DC (e_t eh) ?_
   refine Al (Af ?_)
   unfold Df
   refine Ab e_c (Aa (Ae (AH (Ay ?_))))
   cases hr
   exact A5 (AE eh AG) (AK AF v_d) (As hwf) h
 refine AT eh ?_
 refine Ag (R := []) rfl rfl (AA (e_t (Ai rfl (Ak rfl (Ad rfl h1)))) (by rfl) (Aa ?_))
 refine AT (em rfl eh) ?_
 refine Ag rfl (BM (e_t eh)) (Ao (e_t eh) (gx 0 rfl) (by rfl) (Aa ?_))
 refine AT (Ac rfl eh) ?_
 refine Ag (R := []) rfl rfl (Ap (e_t eh) e_c (Da (Aa ?_)))
 refine Ag (R := []) rfl rfl (An (e_t (Ac rfl (em rfl eh))) (e_t eh) (Aa ?_))
 refine Ag (R := []) rfl rfl (Ab (e_t eh) (Aa ?_))
 refine CC eh hr (fun hr => ?_) (fun hr => ?_)
 · refine Av eh (Av (em rfl eh) (Av (Ac rfl eh) ?_))
   refine Ag (R := []) rfl rfl (Am (e_t (Ac rfl (em rfl eh))) e_c (Aa ?_))
   refine Ag (R := []) rfl rfl (Ab (e_t eh) (Aa ?_))
   refine Av eh (Av (em rfl eh) (Av (Ac rfl eh) (Av (Ac rfl (em rfl eh)) ?_)))
   refine AV eh ?_
   refine AV (em rfl eh) ?_
   refine AV (Ac rfl eh) ?_
   refine AV (Ac rfl (em rfl eh)) ?_
   refine Av (Ad rfl (Ad rfl eh)) ?_
   refine Ag (R := []) rfl rfl (Am (e_t (Ak rfl (em rfl eh))) e_c (Aa ?_))
   refine Ag (R := []) rfl rfl (Ab (e_t eh) (Aa ?_))
   refine Av eh (Av (em rfl eh) (Av (Ac rfl eh) (Av (Ac rfl (em rfl eh)) ?_)))
   refine AV eh ?_
   refine AV (em rfl eh) ?_
   refine AV (Ac rfl eh) ?_
   refine AV (Ac rfl (em rfl eh)) ?_
   refine Av (Ad rfl (Ad rfl eh)) ?_
   refine Ag (R := []) rfl rfl (Am (e_t (Ak rfl (em rfl eh))) e_c (Aa ?_))
   refine BO ?_
   refine ⟨by simp [Ch, okPairs, BP, FY], ?_⟩
   refine Ae ?_
   refine DC (e_t eh) ?_
   refine Al (Af ?_)
   unfold Df
   refine Ab e_c (Aa (Ae (AH (Ay ?_))))
   cases hr
   exact A5 (AE eh AG) (AK AF v_d) (As hwf) h
 refine AT eh ?_
 refine Ag (R := []) rfl rfl (AA (e_t (Ai rfl (Ai rfl (Ac rfl h1)))) (by rfl) (Aa ?_))
 refine AT (em rfl eh) ?_
 refine Ag rfl (BM (e_t eh)) (Ao (e_t eh) (gx 0 rfl) (by rfl) (Aa ?_))
 refine AT (Ac rfl eh) ?_
 refine Ag (R := []) rfl rfl (Ap (e_t eh) e_c (B6 (Aa ?_)))
 refine Ag (R := []) rfl rfl (An (e_t (Ac rfl (em rfl eh))) (e_t eh) (Aa ?_))
 refine Ag (R := []) rfl rfl (Ab (e_t eh) (Aa ?_))
 refine CC eh hr (fun hr => ?_) (fun hr => ?_)
 · refine Av eh (Av (em rfl eh) (Av (Ac rfl eh) (Av (Ac rfl (em rfl eh)) ?_)))
   refine AV eh ?_
   refine AV (em rfl eh) ?_
   refine AV (Ac rfl eh) ?_
   refine AV (Ac rfl (em rfl eh)) ?_
   refine Av (Ad rfl (Ad rfl eh)) ?_
   refine Ag (R := []) rfl rfl (Am (e_t (Ak rfl (em rfl eh))) e_c (Aa ?_))
   refine Ag (R := []) rfl rfl (Ab (e_t eh) (Aa ?_))
   refine Av eh (Av (em rfl eh) (Av (Ac rfl eh) (Av (Ac rfl (em rfl eh)) ?_)))
   refine AV eh ?_
   refine AV (em rfl eh) ?_
   refine AV (Ac rfl eh) ?_
   refine AV (Ac rfl (em rfl eh)) ?_
   refine Av (Ad rfl (Ad rfl eh)) ?_
   refine Ag (R := []) rfl rfl (Am (e_t (Ak rfl (em rfl eh))) e_c (Aa ?_))
   refine BO ?_
   refine ⟨by simp [Ch, okPairs, BP, FY], ?_⟩
   refine Ae ?_
   refine DC (e_t eh) ?_
   refine Al (Af ?_)
   unfold Df
   refine Ab e_c (Aa (Ae (AH (Ay ?_))))
   cases hr
   exact A5 (AE eh AG) (AK AF v_d) (As hwf) h
 refine AT eh ?_
 refine Ag (R := []) rfl rfl (Ab (e_t (Ai rfl (Ai rfl (Ad rfl (Ad rfl h4))))) (Aa ?_))
 refine AT (em rfl eh) ?_
 obtain ⟨v13, hc_v13, hr⟩ := bind_some hr
 refine F9 (Az (e_t eh) AF (Az e_c AF A1)) (B2 (e_t eh) (by rfl) (B2 e_c (by rfl) F1)) (fun st2 => VR n v2 (98 : Int) hc_v13 ⟨rfl, rfl⟩) ?_
 refine AT (Ac rfl eh) ?_
 refine Ag (R := []) rfl rfl (CN (e_t eh) (Aa ?_))
 refine AT (Ac rfl (em rfl eh)) ?_
 refine Ag (R := []) rfl rfl (Ab (e_t eh) (Aa ?_))
 refine CC eh hr (fun hr => ?_) (fun hr => ?_)
 rotate_left
 · refine Av eh (Av (em rfl eh) (Av (Ac rfl eh) (Av (Ac rfl (em rfl eh)) (AT (Ak rfl (em rfl eh)) ?_))))
   refine Ag (R := []) rfl rfl (An (e_t (Ad rfl eh)) e_c (Aa ?_))
   refine Ag (R := []) rfl rfl (An (e_t (Ak rfl (Ac rfl eh))) (e_t eh) (Aa ?_))
   refine Ag (R := []) rfl rfl (Ab (e_t eh) (Aa ?_))
   refine AT eh ?_
   refine Ag (R := []) rfl rfl (Ab (e_t (Ai rfl (Ai rfl (Ai rfl (Ad rfl h4))))) (Aa ?_))
   refine AT (em rfl eh) ?_
   obtain ⟨v15, hc_v15, hr⟩ := bind_some hr
   refine F9 (Az (e_t eh) AF (Az e_c AF A1)) (B2 (e_t eh) (by rfl) (B2 e_c (by rfl) F1)) (fun st2 => VR n v2 (101 : Int) hc_v15 ⟨rfl, rfl⟩) ?_
   refine AT (Ac rfl eh) ?_
   refine Ag (R := []) rfl rfl (CN (e_t eh) (Aa ?_))
   refine AT (Ac rfl (em rfl eh)) ?_
   refine Ag (R := []) rfl rfl (Ab (e_t eh) (Aa ?_))
   refine CC eh hr (fun hr => ?_) (fun hr => ?_)
   rotate_left
   · refine Av eh (Av (em rfl eh) (Av (Ac rfl eh) (Av (Ac rfl (em rfl eh)) (AT (Ak rfl (em rfl eh)) ?_))))
     refine Ag (R := []) rfl rfl (An (e_t (Ad rfl eh)) e_c (Aa ?_))
     refine Ag (R := []) rfl rfl (An (e_t (Ak rfl (Ac rfl eh))) (e_t eh) (Aa ?_))
     refine BO ?_
     refine ⟨by simp [Ch, okPairs, BP, FY], ?_⟩
     refine Ae ?_
     refine FO (e_t eh) ?_
     refine AM (Ae ?_)
     exact ⟨hr, (Ai rfl (Ai rfl (Ai rfl (Ak rfl (Ad rfl (Ac rfl (em rfl h1))))))), rfl⟩
   refine AT eh ?_
   refine Ag (R := []) rfl rfl (AA (e_t (Ai rfl (Ai rfl (Ai rfl (Ak rfl (em rfl h1)))))) (by rfl) (Aa ?_))
   refine AT (em rfl eh) ?_
   refine Ag rfl (BM (e_t eh)) (Ao (e_t eh) (gx 0 rfl) (by rfl) (Aa ?_))
   refine AT (Ac rfl eh) ?_
   refine Ag rfl (TU (e_t eh)) (Bc (row := TS.row) (AN (e_t eh) Bo) (Aa ?_))
   refine AT (Ac rfl (em rfl eh)) ?_
   refine Ag (R := []) rfl rfl (Ap (e_t eh) e_c (B6 (Aa ?_)))
   refine AT (Ak rfl (em rfl eh)) ?_
   refine Ag (R := []) rfl rfl (Am (e_t (Ad rfl eh)) (e_t eh) (Aa ?_))
   refine Ag (R := []) rfl rfl (An (e_t (Ak rfl (Ac rfl eh))) (e_t eh) (Aa ?_))
   refine BO ?_
   refine ⟨by simp [Ch, okPairs, BP, FY], ?_⟩
   refine Ae ?_
   refine AB (e_t eh) hr (fun hr => ?_) (fun hr => ?_)
   rotate_left
   · refine AM (Ae ?_)
     exact ⟨hr, (Ai rfl (Ai rfl (Ai rfl (Ak rfl (Ad rfl (Ac rfl (em rfl h1))))))), rfl⟩
   refine Al (Af ?_)
   unfold Df
   refine Ab e_c (Aa (Ae (AH (Ay ?_))))
   cases hr
   exact A5 (AE eh AG) (AK AF v_d) (As hwf) h
 refine AT eh ?_
 refine Ag (R := []) rfl rfl (AA (e_t (Ai rfl (Ai rfl (Ak rfl (Ad rfl (em rfl h1)))))) (by rfl) (Aa ?_))
 refine AT (em rfl eh) ?_
 refine Ag rfl (BM (e_t eh)) (Ao (e_t eh) (gx 0 rfl) (by rfl) (Aa ?_))
 refine AT (Ac rfl eh) ?_
 refine Ag rfl (TU (e_t eh)) (Bc (row := TS.row) (AN (e_t eh) Bo) (Aa ?_))
 refine AT (Ac rfl (em rfl eh)) ?_
 refine Ag (R := []) rfl rfl (Ap (e_t eh) e_c (B6 (Aa ?_)))
 refine AT (Ak rfl (em rfl eh)) ?_
 refine Ag (R := []) rfl rfl (Am (e_t (Ad rfl eh)) (e_t eh) (Aa ?_))
 refine Ag (R := []) rfl rfl (An (e_t (Ak rfl (Ac rfl eh))) (e_t eh) (Aa ?_))
 refine Ag (R := []) rfl rfl (Ab (e_t eh) (Aa ?_))
 refine CC eh hr (fun hr => ?_) (fun hr => ?_)
 · refine Av eh (Av (em rfl eh) (Av (Ac rfl eh) (Av (Ac rfl (em rfl eh)) ?_)))
   refine AV eh ?_
   refine AV (em rfl eh) ?_
   refine AV (Ac rfl eh) ?_
   refine AV (Ac rfl (em rfl eh)) ?_
   refine Av (Ad rfl (Ad rfl eh)) ?_
   refine Ag (R := []) rfl rfl (Am (e_t (Ak rfl (em rfl eh))) e_c (Aa ?_))
   refine BO ?_
   refine ⟨by simp [Ch, okPairs, BP, FY], ?_⟩
   refine Ae ?_
   refine DC (e_t eh) ?_
   refine Al (Af ?_)
   unfold Df
   refine Ab e_c (Aa (Ae (AH (Ay ?_))))
   cases hr
   exact A5 (AE eh AG) (AK AF v_d) (As hwf) h
 refine AT eh ?_
 refine Ag (R := []) rfl rfl (Ab (e_t (Ai rfl (Ai rfl (Ai rfl (Ad rfl (em rfl h4)))))) (Aa ?_))
 refine AT (em rfl eh) ?_
 obtain ⟨v14, hc_v14, hr⟩ := bind_some hr
 refine F9 (Az (e_t eh) AF (Az e_c AF A1)) (B2 (e_t eh) (by rfl) (B2 e_c (by rfl) F1)) (fun st2 => VR n v2 (101 : Int) hc_v14 ⟨rfl, rfl⟩) ?_
 refine AT (Ac rfl eh) ?_
 refine Ag (R := []) rfl rfl (CN (e_t eh) (Aa ?_))
 refine AT (Ac rfl (em rfl eh)) ?_
 refine Ag (R := []) rfl rfl (Ab (e_t eh) (Aa ?_))
 refine CC eh hr (fun hr => ?_) (fun hr => ?_)
 rotate_left
 · refine Av eh (Av (em rfl eh) (Av (Ac rfl eh) (Av (Ac rfl (em rfl eh)) (AT (Ak rfl (em rfl eh)) ?_))))
   refine Ag (R := []) rfl rfl (An (e_t (Ad rfl eh)) e_c (Aa ?_))
   refine Ag (R := []) rfl rfl (An (e_t (Ak rfl (Ac rfl eh))) (e_t eh) (Aa ?_))
   refine BO ?_
   refine ⟨by simp [Ch, okPairs, BP, FY], ?_⟩
   refine Ae ?_
   refine FO (e_t eh) ?_
   refine AM (Ae ?_)
   exact ⟨hr, (Ai rfl (Ai rfl (Ai rfl (Ak rfl (Ad rfl (Ad rfl h1)))))), rfl⟩
 refine AT eh ?_
 refine Ag (R := []) rfl rfl (AA (e_t (Ai rfl (Ai rfl (Ai rfl (Ak rfl (Ac rfl h1)))))) (by rfl) (Aa ?_))
 refine AT (em rfl eh) ?_
 refine Ag rfl (BM (e_t eh)) (Ao (e_t eh) (gx 0 rfl) (by rfl) (Aa ?_))
 refine AT (Ac rfl eh) ?_
 refine Ag rfl (TU (e_t eh)) (Bc (row := TS.row) (AN (e_t eh) Bo) (Aa ?_))
 refine AT (Ac rfl (em rfl eh)) ?_
 refine Ag (R := []) rfl rfl (Ap (e_t eh) e_c (B6 (Aa ?_)))
 refine AT (Ak rfl (em rfl eh)) ?_
 refine Ag (R := []) rfl rfl (Am (e_t (Ad rfl eh)) (e_t eh) (Aa ?_))
 refine Ag (R := []) rfl rfl (An (e_t (Ak rfl (Ac rfl eh))) (e_t eh) (Aa ?_))
 refine BO ?_
 refine ⟨by simp [Ch, okPairs, BP, FY], ?_⟩
 refine Ae ?_
 refine AB (e_t eh) hr (fun hr => ?_) (fun hr => ?_)
 rotate_left
 · refine AM (Ae ?_)
   exact ⟨hr, (Ai rfl (Ai rfl (Ai rfl (Ak rfl (Ad rfl (Ad rfl h1)))))), rfl⟩
 refine Al (Af ?_)
 unfold Df
 refine Ab e_c (Aa (Ae (AH (Ay ?_))))
 cases hr
 exact A5 (AE eh AG) (AK AF v_d) (As hwf) h
def ME (p0 : (List TS)) (s_RBuilt : TS → Option Bool) (q0 : Int → Option Bool) (v1 : Int) : Option Bool :=
 (bif (decide (v1 < (p0.length : Int))) then ((Dw p0 v1).bind fun v2 => ((s_RBuilt v2).bind fun v3 => (bif (!v3) then some false else q0 (IntKind.wrap .i64 (v1 + (1 : Int)))))) else some true)
def EC (p0 : (List TS)) (s_RBuilt : TS → Option Bool) : Nat → Int → Option Bool
 | 0, _ => none
 | m + 1, v1 => ME p0 s_RBuilt (EC p0 s_RBuilt m) v1
def TO (s_RBuilt : TS → Option Bool) (s_RBlocks : (List TS) → Option Bool) (n : Nat) (p0 : (List TS)) : Option Bool :=
 (EC p0 s_RBuilt n (0 : Int))
theorem BM5 (s_RBuilt : TS → Option Bool) (s_RBlocks : (List TS) → Option Bool) (n : Nat) (p0 : (List TS)) (H_s_RBuilt : ∀ (p0 : TS) {r : Bool}, s_RBuilt p0 = some r → ∀ {st : List Content} {K : PV → List Content → Prop} (h : K (.d (.bool r)) st), Aw PR Te [(.agg [(.d (.int .i64 p0.Op)), (.d (.str p0.Name)), (.d (.str p0.Src)), (.d (.int .i64 p0.N)), (.d (.sl (List.map rS p0.Cols))), (.d (.sl (List.map TE.row p0.Exprs))), (.d (.sl (List.map TS.row p0.Body))), (.d (.sl (List.map TS.row p0.Else)))])] st K) (H_s_RBlocks : ∀ (p0 : (List TS)) {r : Bool}, s_RBlocks p0 = some r → ∀ {st : List Content} {K : PV → List Content → Prop} (h : K (.d (.bool r)) st), Aw PR Gx [(.d (.sl (List.map TS.row p0)))] st K) {r : Bool} (hr : TO s_RBuilt s_RBlocks n p0 = some r) {K : PV → List Content → Prop} (h : K (.d (.bool r)) st) : Aw PR Gx [(.d (.sl (List.map TS.row p0)))] st K := by
 refine Aw.of Bs8 (Nat.le_of_ble_eq_true rfl) fun hwf => ?_
 rw [CE]
 refine AS ?_
 unfold AQ6
 rw [TO] at hr
 refine Al (Af ?_)
 unfold AF6
 refine Ab e_c (Aa (Ae (Al (Al (Af ?_)))))
 unfold Az1
 refine Ab e_c (Aa (Ae ?_))
 refine A3 ?_
 refine Cy (fun m f st' => ∃ (v1 : Int), EC p0 s_RBuilt m v1 = some r ∧ f 0 = (.d (.sl (List.map TS.row p0))) ∧ f 3 = (.d (.int .i64 v1)) ∧ st' = st ++ []) n (Ghost.refl _) ⟨(0 : Int), hr, (Ac rfl eh), eh, rfl⟩ ?_
 rintro m f st' ⟨v1, hr, h0, h3, rfl⟩
 cases m with
 | zero => cases hr
 | succ m_0 =>
   rw [EC] at hr
   generalize hrec_0 : EC p0 s_RBuilt m_0 = q0 at hr
   rw [ME] at hr
   unfold AA0
   refine Al (Al (Af ?_))
   unfold AK6
   refine Ab (e_t h3) (Ab (e_t (em rfl h0)) ?_)
   refine Bc (row := TS.row) (AN (e_t eh) Bo) ?_
   refine Ap (e_t (Ac rfl eh)) (e_t eh) (Da ?_)
   refine Aa (Ae ?_)
   refine AB (e_t eh) hr (fun hr => ?_) (fun hr => ?_)
   rotate_left
   · refine Dj ?_
     refine A8 ?_
     refine A8 ?_
     refine Fo ?_
     refine Ae (Al (Af ?_))
     unfold Au8
     refine Ab e_c (Aa (Ae (AH ?_)))
     cases hr
     exact A5 (AE eh AG) (AK AF v_d) (As hwf) h
   refine AM (Ae (Al ?_))
   refine A3 ?_
   refine Al (Af ?_)
   unfold AL3
   refine Ab (e_t (Ad rfl h0)) (Ab (e_t (Ad rfl (em rfl h3))) ?_)
   refine Bt (row := TS.row) (AN (e_t (em rfl eh)) Bo) (e_t eh) hr TS.row_eq (fun _ => rfl) (fun v2 hr => ?_)
   refine Ft (e_t eh) (Nat.le_of_ble_eq_true rfl) (by rfl) ?_
   obtain ⟨v3, hc_v3, hr⟩ := bind_some hr
   refine AY (Az (e_t eh) (Cw (Aq f_d (Aq f_d (Aq f_d (Aq f_d (Aq f_d (Aq f_d (Aq f_d (Aq f_d Dg))))))))) A1) ?_
   refine H_s_RBuilt v2 hc_v3 ?_
   refine CN (e_t eh) (Aa (Ae ?_))
   refine AB (e_t eh) hr (fun hr => ?_) (fun hr => ?_)
   rotate_left
   · refine AM ?_
     refine BQ ?_
     refine Ae (Af ?_)
     unfold AJ2
     refine Ab (e_t (Ak rfl (Ac rfl h3))) ?_
     refine Ap (e_t eh) e_c (B4 ?_)
     refine Ab (e_t eh) (Aa (Ae ?_))
     exact ⟨m_0, _, Nat.lt_succ_self m_0, Ghost.refl _, (IntKind.wrap .i64 (v1 + (1 : Int))), (by rw [hrec_0]; exact hr), (Ak rfl (Ad rfl (em rfl h0))), eh, rfl⟩
   refine Al (Af ?_)
   unfold AM4
   refine Ab e_c (Aa (Ae (AH ?_)))
   refine Bw ?_
   refine Ay (Ay ?_)
   refine Bw ?_
   refine Ay ?_
   cases hr
   exact A5 (AE eh AG) (AK AF v_d) (As hwf) h
mutual
def Fv : Nat → TS → Option Bool
 | 0, _ => none
 | n + 1, p0 => XJ (Fv n) (Di n) n p0
def Di : Nat → (List TS) → Option Bool
 | 0, _ => none
 | n + 1, p0 => TO (Fv n) (Di n) n p0
end
theorem WQ : ∀ n : Nat, (∀ (p0 : TS) {r : Bool}, Fv n p0 = some r → ∀ {st : List Content} {K : PV → List Content → Prop} (h : K (.d (.bool r)) st), Aw PR Te [(.agg [(.d (.int .i64 p0.Op)), (.d (.str p0.Name)), (.d (.str p0.Src)), (.d (.int .i64 p0.N)), (.d (.sl (List.map rS p0.Cols))), (.d (.sl (List.map TE.row p0.Exprs))), (.d (.sl (List.map TS.row p0.Body))), (.d (.sl (List.map TS.row p0.Else)))])] st K) ∧ (∀ (p0 : (List TS)) {r : Bool}, Di n p0 = some r → ∀ {st : List Content} {K : PV → List Content → Prop} (h : K (.d (.bool r)) st), Aw PR Gx [(.d (.sl (List.map TS.row p0)))] st K)
 | 0 => ⟨fun _ _ hr => (by rw [Fv] at hr; cases hr), fun _ _ hr => (by rw [Di] at hr; cases hr)⟩
 | n + 1 => ⟨fun p0 _ hr _ _ h => BR4 (Fv n) (Di n) n p0 (WQ n).1 (WQ n).2 (by rw [Fv] at hr; exact hr) h, fun p0 _ hr _ _ h => BM5 (Fv n) (Di n) n p0 (WQ n).1 (WQ n).2 (by rw [Di] at hr; exact hr) h⟩
theorem BR9 (n : Nat) (p0 : (List TS)) {r : Bool} (hr : Di n p0 = some r) {K : PV → List Content → Prop} (h : K (.d (.bool r)) st) : Aw PR Gx [(.d (.sl (List.map TS.row p0)))] st K := (WQ n).2 p0 hr h
end Go.Ax
