import Derived.Test.YtojkpenjeglipaaIYT
import Derived.Test.YtojkpenjeglipaaICVX
import Derived.Test.YtojkpenjeglipaaICPrim
import Derived.Test.YtojkpenjeglipaaIYD11
import Derived.Test.YtojkpenjeglipaaIYD14
import Derived.Test.YtojkpenjeglipaaIYD15
set_option linter.unusedVariables false
set_option linter.unusedSimpArgs false
namespace Go.Ax
attribute [local irreducible] BL ER FD Bf CF Fz B6 KZ HX upd ev u0 Dt frz A6 EB mmD bnd BV Ft Do CO GU Ht G2 cutV I1 Cv
variable {st : List Content}
def GI (p0 : TS) (s_RBlocks : (List TS) → Option Bool) : Option Bool :=
 ((s_RBlocks p0.Body).bind fun v30 => (bif v30 then ((s_RBlocks p0.Else).bind fun v31 => some v31) else some false))
def GQ (p0 : TS) (s_RBlocks : (List TS) → Option Bool) (n : Nat) (q0 : Int → Option Bool) (v27 : Int) : Option Bool :=
 (bif (decide (v27 < (p0.Exprs.length : Int))) then ((Dh p0.Exprs v27).bind fun v28 => ((By n v28).bind fun v29 => (bif (!v29) then some false else q0 (IntKind.wrap .i64 (v27 + (1 : Int)))))) else (GI p0 s_RBlocks))
def CC (p0 : TS) (s_RBlocks : (List TS) → Option Bool) (n : Nat) : Nat → Int → Option Bool
 | 0, _ => none
 | m + 1, v27 => GQ p0 s_RBlocks n (CC p0 s_RBlocks n m) v27
def Fj (p0 : TS) (s_RBlocks : (List TS) → Option Bool) (n : Nat) : Option Bool :=
 (CC p0 s_RBlocks n n (0 : Int))
def FJ (p0 : TS) (s_RBlocks : (List TS) → Option Bool) (n : Nat) (v25 : Bool) (v26 : Bool) : Option Bool :=
 (bif v26 then some false else (bif (!v25) then (bif (!decide ((p0.Exprs.length : Int) = (IntKind.wrap .i64 ((1 : Int) + (p0.Cols.length : Int))))) then some false else (Fj p0 s_RBlocks n)) else (Fj p0 s_RBlocks n)))
def Fe (p0 : TS) (s_RBlocks : (List TS) → Option Bool) (n : Nat) (v25 : Bool) : Option Bool :=
 (bif v25 then (bif (decide ((p0.Exprs.length : Int) < (1 : Int))) then (FJ p0 s_RBlocks n v25 true) else (FJ p0 s_RBlocks n v25 (decide ((8 : Int) < (p0.Exprs.length : Int))))) else (FJ p0 s_RBlocks n v25 false))
def FI (p0 : TS) (s_RBlocks : (List TS) → Option Bool) (n : Nat) : Option Bool :=
 (bif (decide (p0.Op = (3 : Int))) then (Fe p0 s_RBlocks n true) else (bif (decide (p0.Op = (8 : Int))) then (Fe p0 s_RBlocks n true) else (Fe p0 s_RBlocks n (decide (p0.Op = (10 : Int))))))
def GV (p0 : TS) (v19 : Int) (q1 : Int → Option Bool) (q2 : Int → Option Bool) (v22 : Int) : Option Bool :=
 (bif (decide (v22 < v19)) then ((Dh p0.Cols v22).bind fun v23 => ((Dh p0.Cols v19).bind fun v24 => (bif (decide (v23 = v24)) then some false else q2 (IntKind.wrap .i64 (v22 + (1 : Int)))))) else q1 (IntKind.wrap .i64 (v19 + (1 : Int))))
def Cn (p0 : TS) (v19 : Int) (q1 : Int → Option Bool) : Nat → Int → Option Bool
 | 0, _ => none
 | m + 1, v22 => GV p0 v19 q1 (Cn p0 v19 q1 m) v22
def GJ (p0 : TS) (s_RBlocks : (List TS) → Option Bool) (n : Nat) (q1 : Int → Option Bool) (v19 : Int) : Option Bool :=
 (bif (decide (v19 < (p0.Cols.length : Int))) then ((Dh p0.Cols v19).bind fun v20 => ((Dr n v20).bind fun v21 => (bif (!v21) then some false else (Cn p0 v19 q1 n (0 : Int))))) else (FI p0 s_RBlocks n))
def CB (p0 : TS) (s_RBlocks : (List TS) → Option Bool) (n : Nat) : Nat → Int → Option Bool
 | 0, _ => none
 | m + 1, v19 => GJ p0 s_RBlocks n (CB p0 s_RBlocks n m) v19
def CA (p0 : TS) (s_RBlocks : (List TS) → Option Bool) (n : Nat) : Option Bool :=
 (CB p0 s_RBlocks n n (0 : Int))
def CY (p0 : TS) (s_RBlocks : (List TS) → Option Bool) (n : Nat) (v2 : ByteArray) : Option Bool :=
 ((FP n v2 (99 : Int)).bind fun v11 => (bif (!(v11 == (decide ((0 : Int) < (p0.Cols.length : Int))))) then some false else (bif (decide ((8 : Int) < (p0.Cols.length : Int))) then some false else ((FP n v2 (78 : Int)).bind fun v12 => (bif (!v12) then (bif (!decide (p0.N = (0 : Int))) then some false else (bif (decide (p0.N < (0 : Int))) then some false else (bif (decide ((1000 : Int) < p0.N)) then some false else ((FP n v2 (98 : Int)).bind fun v13 => (bif (!v13) then (bif (decide ((0 : Int) < (p0.Body.length : Int))) then some false else ((FP n v2 (101 : Int)).bind fun v14 => (bif (!v14) then (bif (decide ((0 : Int) < (p0.Else.length : Int))) then some false else (CA p0 s_RBlocks n)) else (CA p0 s_RBlocks n)))) else ((FP n v2 (101 : Int)).bind fun v15 => (bif (!v15) then (bif (decide ((0 : Int) < (p0.Else.length : Int))) then some false else (CA p0 s_RBlocks n)) else (CA p0 s_RBlocks n)))))))) else (bif (decide (p0.N < (0 : Int))) then some false else (bif (decide ((1000 : Int) < p0.N)) then some false else ((FP n v2 (98 : Int)).bind fun v16 => (bif (!v16) then (bif (decide ((0 : Int) < (p0.Body.length : Int))) then some false else ((FP n v2 (101 : Int)).bind fun v17 => (bif (!v17) then (bif (decide ((0 : Int) < (p0.Else.length : Int))) then some false else (CA p0 s_RBlocks n)) else (CA p0 s_RBlocks n)))) else ((FP n v2 (101 : Int)).bind fun v18 => (bif (!v18) then (bif (decide ((0 : Int) < (p0.Else.length : Int))) then some false else (CA p0 s_RBlocks n)) else (CA p0 s_RBlocks n))))))))))))
def EX (p0 : TS) (s_RBlocks : (List TS) → Option Bool) (n : Nat) (v1 : Bool) : Option Bool :=
 (bif v1 then some false else ((Dh ([(⟨#[]⟩ : ByteArray), (⟨#[110]⟩ : ByteArray), (⟨#[110]⟩ : ByteArray), (⟨#[115]⟩ : ByteArray), (⟨#[110, 115, 99]⟩ : ByteArray), (⟨#[110, 115]⟩ : ByteArray), (⟨#[110, 115, 78, 98]⟩ : ByteArray), (⟨#[98, 101]⟩ : ByteArray), (⟨#[115]⟩ : ByteArray), (⟨#[]⟩ : ByteArray), (⟨#[]⟩ : ByteArray)]) p0.Op).bind fun v2 => ((FP n v2 (110 : Int)).bind fun v3 => (bif (!(v3 == (!decide (p0.Name = (⟨#[]⟩ : ByteArray))))) then some false else ((FP n v2 (115 : Int)).bind fun v4 => (bif (!(v4 == (!decide (p0.Src = (⟨#[]⟩ : ByteArray))))) then some false else ((FP n v2 (110 : Int)).bind fun v5 => (bif v5 then ((Dr n p0.Name).bind fun v6 => (bif (!v6) then some false else ((FP n v2 (115 : Int)).bind fun v7 => (bif v7 then ((Dr n p0.Src).bind fun v8 => (bif (!v8) then some false else (CY p0 s_RBlocks n v2))) else (CY p0 s_RBlocks n v2))))) else ((FP n v2 (115 : Int)).bind fun v9 => (bif v9 then ((Dr n p0.Src).bind fun v10 => (bif (!v10) then some false else (CY p0 s_RBlocks n v2))) else (CY p0 s_RBlocks n v2)))))))))))
def IA (s_RBuilt : TS → Option Bool) (s_RBlocks : (List TS) → Option Bool) (n : Nat) (p0 : TS) : Option Bool :=
 (bif (decide (p0.Op < (1 : Int))) then (EX p0 s_RBlocks n true) else (EX p0 s_RBlocks n (decide ((10 : Int) < p0.Op))))
set_option maxRecDepth 100000 in
set_option maxHeartbeats 4000000 in
theorem AD6 (s_RBuilt : TS → Option Bool) (s_RBlocks : (List TS) → Option Bool) (n : Nat) (p0 : TS) (H_s_RBuilt : ∀ (p0 : TS) {r : Bool}, s_RBuilt p0 = some r → ∀ {st : List Content} {K : PV → List Content → Prop} (h : K (.d (.bool r)) st), Aw PR NE [(.agg [(.d (.int .i64 p0.Op)), (.d (.str p0.Name)), (.d (.str p0.Src)), (.d (.int .i64 p0.N)), (.d (.sl (List.map rS p0.Cols))), (.d (.sl (List.map TE.row p0.Exprs))), (.d (.sl (List.map TS.row p0.Body))), (.d (.sl (List.map TS.row p0.Else)))])] st K) (H_s_RBlocks : ∀ (p0 : (List TS)) {r : Bool}, s_RBlocks p0 = some r → ∀ {st : List Content} {K : PV → List Content → Prop} (h : K (.d (.bool r)) st), Aw PR HQ [(.d (.sl (List.map TS.row p0)))] st K) {r : Bool} (hr : IA s_RBuilt s_RBlocks n p0 = some r) {K : PV → List Content → Prop} (h : K (.d (.bool r)) st) : Aw PR NE [(.agg [(.d (.int .i64 p0.Op)), (.d (.str p0.Name)), (.d (.str p0.Src)), (.d (.int .i64 p0.N)), (.d (.sl (List.map rS p0.Cols))), (.d (.sl (List.map TE.row p0.Exprs))), (.d (.sl (List.map TS.row p0.Body))), (.d (.sl (List.map TS.row p0.Else)))])] st K := by
 refine Aw.of AJ6 (Nat.le_of_ble_eq_true rfl) fun hwf => ?_
 rw [Cm]
 refine AQ ?_
 unfold Am6
 rw [IA] at hr
 refine Al (Af ?_)
 unfold VP
 refine Gw (k := 0) rfl rfl (e_t eh) Bg (by exact rfl) ?_
 refine Ab e_c (Aa (Ae (Al ?_)))
 refine BD (fun f st' => ∃ (v1 : Bool), EX p0 s_RBlocks n v1 = some r ∧ f 1 = (.ptr (st.length + 0) 0) ∧ f 17 = (.d (.bool v1)) ∧ st' = st ++ [(.box [(.d (.int .i64 p0.Op)), (.d (.str p0.Name)), (.d (.str p0.Src)), (.d (.int .i64 p0.N)), (.d (.sl (List.map rS p0.Cols))), (.d (.sl (List.map TE.row p0.Exprs))), (.d (.sl (List.map TS.row p0.Body))), (.d (.sl (List.map TS.row p0.Else)))])]) ?_ ?_
 · refine Af ?_
   unfold WB
   refine AB (e_t (em rfl eh)) (by exact rfl) ?_
   refine Ap (e_t eh) ((Am rfl 0).trans rfl) (by exact rfl) ?_
   refine Ar (e_t eh) e_c (CL ?_)
   refine Ab (e_t eh) ?_
   refine Au eh hr (fun hr => ?_) (fun hr => ?_)
   · refine Ah eh (Ah (em rfl eh) (Ah (Ac rfl eh) (An (e_t (Ac rfl (em rfl eh))) e_c (Aa (Ae ?_)))))
     exact ⟨true, hr, (Ak rfl (Ac rfl eh)), eh, rfl⟩
   refine Aj eh ?_
   refine AB (e_t (Ad rfl (Ac rfl eh))) (by exact rfl) ?_
   refine Aj (em rfl eh) ?_
   refine Ap (e_t eh) ((Am rfl 0).trans rfl) (by exact rfl) ?_
   refine Aj (Ac rfl eh) ?_
   refine Ar (e_t eh) e_c (C8 ?_)
   refine Ao (e_t (Ac rfl (em rfl eh))) (e_t eh) (Aa (Ae ?_))
   exact ⟨(decide ((10 : Int) < p0.Op)), hr, (Ak rfl (Ac rfl eh)), eh, rfl⟩
 rintro f st' ⟨v1, hr, h1, h17, rfl⟩
 rw [EX] at hr
 refine AC (e_t h17) hr (fun hr => ?_) (fun hr => ?_)
 · refine Al (Af ?_)
   unfold Wa
   refine Ab e_c (Aa (Ae (AI (AA ?_))))
   cases hr
   exact A7 (AF eh AH) (AM AG v_d) (Av hwf) h
 refine AN (Ae (Al (Af ?_)))
 unfold VQ
 refine CX (rows := List.map rS [(⟨#[]⟩ : ByteArray), (⟨#[110]⟩ : ByteArray), (⟨#[110]⟩ : ByteArray), (⟨#[115]⟩ : ByteArray), (⟨#[110, 115, 99]⟩ : ByteArray), (⟨#[110, 115]⟩ : ByteArray), (⟨#[110, 115, 78, 98]⟩ : ByteArray), (⟨#[98, 101]⟩ : ByteArray), (⟨#[115]⟩ : ByteArray), (⟨#[]⟩ : ByteArray), (⟨#[]⟩ : ByteArray)]) ((AE e_c AZ (As f_d AK) rfl (AE e_c AZ (As f_d AK) rfl (AE e_c AZ (As f_d AK) rfl (AE e_c AZ (As f_d AK) rfl (AE e_c AZ (As f_d AK) rfl (AE e_c AZ (As f_d AK) rfl (AE e_c AZ (As f_d AK) rfl (AE e_c AZ (As f_d AK) rfl (AE e_c AZ (As f_d AK) rfl (AE e_c AZ (As f_d AK) rfl (AE e_c AZ (As f_d AK) rfl DV)))))))))))) ?_
 refine Ab (e_t eh) (Aa (Ae (Al (Af ?_))))
 unfold Xb
 refine Ab (e_t eh) ?_
 refine AB (e_t (Ac rfl (em rfl h1))) (by exact rfl) ?_
 refine Ap (e_t eh) ((Am rfl 0).trans rfl) (by exact rfl) ?_
 refine Bt (row := rS) (AL (e_t (Ac rfl eh)) KJ) (e_t eh) hr (fun _ => rfl) (fun _ => rfl) (fun v2 hr => ?_)
 refine BG (e_t eh) (by exact rfl) ?_
 refine Ab (e_t eh) (Aa (Ae ?_))
 refine BD (fun f st' => CY p0 s_RBlocks n v2 = some r ∧ f 1 = (.ptr (st.length + 0) 0) ∧ f 4 = (.d (.str v2)) ∧ st' = st ++ [(.box [(.d (.int .i64 p0.Op)), (.d (.str p0.Name)), (.d (.str p0.Src)), (.d (.int .i64 p0.N)), (.d (.sl (List.map rS p0.Cols))), (.d (.sl (List.map TE.row p0.Exprs))), (.d (.sl (List.map TS.row p0.Body))), (.d (.sl (List.map TS.row p0.Else)))]), .fresh, .fresh, .fresh, .fresh, .fresh, .fresh]) ?_ ?_
 · refine Al ?_
   refine Hb (k := 1) rfl rfl ?_
   unfold Wk
   refine Ag (R := []) rfl rfl (Ab (e_t eh) (Aa ?_))
   obtain ⟨v3, hc_v3, hr⟩ := bind_some hr
   refine F1 (Ay (e_t eh) AG (Ay e_c AG AR)) (Cb (e_t eh) (by exact rfl) (Cb e_c (by exact rfl) FC)) (fun st2 => Ou n v2 (110 : Int) hc_v3 ⟨rfl, rfl⟩) ?_
   refine Ag (R := []) rfl rfl (AB (e_t (Ak rfl (Ac rfl h1))) (by exact rfl) (Aa ?_))
   refine Ag rfl (Bz (e_t eh)) (Ap (e_t eh) ((Am rfl 0).trans rfl) (by exact rfl) (Aa ?_))
   refine Ag (R := []) rfl rfl (Ar (e_t eh) e_c (MG (Aa ?_)))
   refine Ag (R := []) rfl rfl (AD9 (e_t (Ac rfl (em rfl eh))) (e_t eh) (Aa ?_))
   refine Ag (R := []) rfl rfl (Ab (e_t eh) (Aa ?_))
   refine CH eh hr (fun hr => ?_) (fun hr => ?_)
   · refine Az eh (Az (em rfl eh) (Az (Ac rfl eh) (Az (Ac rfl (em rfl eh)) (Az (Ad rfl eh) (Az (Ad rfl (em rfl eh)) ?_)))))
     refine Ag (R := []) rfl rfl (An (e_t (Ad rfl (Ac rfl eh))) e_c (Aa ?_))
     refine Ag (R := []) rfl rfl (Ab (e_t eh) (Aa ?_))
     refine Az eh (Az (em rfl eh) (Az (Ac rfl eh) ?_))
     refine A2 eh ?_
     refine A2 (em rfl eh) ?_
     refine A2 (Ac rfl eh) ?_
     refine A2 (Ac rfl (em rfl eh)) ?_
     refine Az (Ad rfl (Ac rfl (em rfl eh))) ?_
     refine Ag (R := []) rfl rfl (An (e_t (Ad rfl (Ad rfl eh))) e_c (Aa ?_))
     refine Ag (R := []) rfl rfl (Ab (e_t eh) (Aa ?_))
     refine Az eh (Az (em rfl eh) (Az (Ac rfl eh) ?_))
     refine A2 eh ?_
     refine A2 (em rfl eh) ?_
     refine A2 (Ac rfl eh) ?_
     refine A2 (Ac rfl (em rfl eh)) ?_
     refine Az (Ad rfl (Ac rfl (em rfl eh))) ?_
     refine Ag (R := []) rfl rfl (An (e_t (Ad rfl (Ad rfl eh))) e_c (Aa ?_))
     refine BC ?_
     refine ⟨by simp [BV, okPairs, BS, FE], ?_⟩
     refine Ae ?_
     refine Dz (e_t eh) ?_
     refine Al (Af ?_)
     unfold IG
     refine Ab e_c (Aa (Ae (AI (AA ?_))))
     cases hr
     exact A7 (AF eh AH) (AM AG v_d) (Av hwf) h
   refine AY eh ?_
   refine Ag (R := []) rfl rfl (Ab (e_t (Ad rfl (Ad rfl eh))) (Aa ?_))
   refine AY (em rfl eh) ?_
   obtain ⟨v4, hc_v4, hr⟩ := bind_some hr
   refine F1 (Ay (e_t eh) AG (Ay e_c AG AR)) (Cb (e_t eh) (by exact rfl) (Cb e_c (by exact rfl) FC)) (fun st2 => Ou n v2 (115 : Int) hc_v4 ⟨rfl, rfl⟩) ?_
   refine AY (Ac rfl eh) ?_
   refine Ag (R := []) rfl rfl (AB (e_t (Ai rfl (Ac rfl h1))) (by exact rfl) (Aa ?_))
   refine AY (Ac rfl (em rfl eh)) ?_
   refine Ag rfl (Bz (e_t eh)) (Ap (e_t eh) ((Am rfl 0).trans rfl) (by exact rfl) (Aa ?_))
   refine AY (Ad rfl eh) ?_
   refine Ag (R := []) rfl rfl (Ar (e_t eh) e_c (MG (Aa ?_)))
   refine AY (Ad rfl (em rfl eh)) ?_
   refine Ag (R := []) rfl rfl (AD9 (e_t (Ac rfl (em rfl eh))) (e_t eh) (Aa ?_))
   refine Ag (R := []) rfl rfl (Ao (e_t (Ad rfl (Ac rfl eh))) (e_t eh) (Aa ?_))
   refine Ag (R := []) rfl rfl (Ab (e_t eh) (Aa ?_))
   refine CH eh hr (fun hr => ?_) (fun hr => ?_)
   · refine Az eh (Az (em rfl eh) (Az (Ac rfl eh) ?_))
     refine A2 eh ?_
     refine A2 (em rfl eh) ?_
     refine A2 (Ac rfl eh) ?_
     refine A2 (Ac rfl (em rfl eh)) ?_
     refine Az (Ad rfl (Ac rfl (em rfl eh))) ?_
     refine Ag (R := []) rfl rfl (An (e_t (Ad rfl (Ad rfl eh))) e_c (Aa ?_))
     refine Ag (R := []) rfl rfl (Ab (e_t eh) (Aa ?_))
     refine Az eh (Az (em rfl eh) (Az (Ac rfl eh) ?_))
     refine A2 eh ?_
     refine A2 (em rfl eh) ?_
     refine A2 (Ac rfl eh) ?_
     refine A2 (Ac rfl (em rfl eh)) ?_
     refine Az (Ad rfl (Ac rfl (em rfl eh))) ?_
     refine Ag (R := []) rfl rfl (An (e_t (Ad rfl (Ad rfl eh))) e_c (Aa ?_))
     refine BC ?_
     refine ⟨by simp [BV, okPairs, BS, FE], ?_⟩
     refine Ae ?_
     refine Dz (e_t eh) ?_
     refine Al (Af ?_)
     unfold IG
     refine Ab e_c (Aa (Ae (AI (AA ?_))))
     cases hr
     exact A7 (AF eh AH) (AM AG v_d) (Av hwf) h
   refine AY eh ?_
   refine Ag (R := []) rfl rfl (Ab (e_t (Ai rfl (em rfl eh))) (Aa ?_))
   refine AY (em rfl eh) ?_
   obtain ⟨v5, hc_v5, hr⟩ := bind_some hr
   refine F1 (Ay (e_t eh) AG (Ay e_c AG AR)) (Cb (e_t eh) (by exact rfl) (Cb e_c (by exact rfl) FC)) (fun st2 => Ou n v2 (110 : Int) hc_v5 ⟨rfl, rfl⟩) ?_
   refine AY (Ac rfl eh) ?_
   refine Ag (R := []) rfl rfl (Ab (e_t eh) (Aa ?_))
   refine CH eh hr (fun hr => ?_) (fun hr => ?_)
   rotate_left
   · refine Az eh (Az (em rfl eh) (Az (Ac rfl eh) (Az (Ac rfl (em rfl eh)) (AY (Ad rfl (Ad rfl eh)) ?_))))
     refine Ag (R := []) rfl rfl (Ao (e_t (Ad rfl eh)) e_c (Aa ?_))
     refine Ag (R := []) rfl rfl (Ao (e_t (Ak rfl (em rfl eh))) (e_t eh) (Aa ?_))
     refine Ag (R := []) rfl rfl (Ab (e_t eh) (Aa ?_))
     refine AY eh ?_
     refine Ag (R := []) rfl rfl (Ab (e_t (Ai rfl (Ak rfl (Ad rfl eh)))) (Aa ?_))
     refine AY (em rfl eh) ?_
     obtain ⟨v9, hc_v9, hr⟩ := bind_some hr
     refine F1 (Ay (e_t eh) AG (Ay e_c AG AR)) (Cb (e_t eh) (by exact rfl) (Cb e_c (by exact rfl) FC)) (fun st2 => Ou n v2 (115 : Int) hc_v9 ⟨rfl, rfl⟩) ?_
     refine AY (Ac rfl eh) ?_
     refine Ag (R := []) rfl rfl (Ab (e_t eh) (Aa ?_))
     refine CH eh hr (fun hr => ?_) (fun hr => ?_)
     rotate_left
     · refine Az eh (Az (em rfl eh) (Az (Ac rfl eh) (Az (Ac rfl (em rfl eh)) (AY (Ad rfl (Ad rfl eh)) ?_))))
       refine Ag (R := []) rfl rfl (Ao (e_t (Ad rfl eh)) e_c (Aa ?_))
       refine Ag (R := []) rfl rfl (Ao (e_t (Ak rfl (em rfl eh))) (e_t eh) (Aa ?_))
       refine BC ?_
       refine ⟨by simp [BV, okPairs, BS, FE], ?_⟩
       refine Ae ?_
       refine EP (e_t eh) ?_
       refine AN (Ae ?_)
       exact ⟨hr, (Ai rfl (Ai rfl (Ak rfl (Ad rfl (Ac rfl h1))))), (Ai rfl (Ai rfl (Ad rfl (Ac rfl eh)))), rfl⟩
     refine AY eh ?_
     refine Ag (R := []) rfl rfl (AB (e_t (Ai rfl (Ai rfl (Ad rfl (Ad rfl h1))))) (by exact rfl) (Aa ?_))
     refine AY (em rfl eh) ?_
     refine Ag rfl (Bz (e_t eh)) (Ap (e_t eh) ((Am rfl 0).trans rfl) (by exact rfl) (Aa ?_))
     refine AY (Ac rfl eh) ?_
     obtain ⟨v10, hc_v10, hr⟩ := bind_some hr
     refine F1 (Ay (e_t eh) AG AR) (Cb (e_t eh) (by exact rfl) FC) (fun st2 => JV n p0.Src hc_v10 ⟨rfl, rfl⟩) ?_
     refine AY (Ac rfl (em rfl eh)) ?_
     refine Ag (R := []) rfl rfl (CS (e_t eh) (Aa ?_))
     refine AY (Ad rfl (Ad rfl eh)) ?_
     refine Ag (R := []) rfl rfl (An (e_t (Ad rfl eh)) (e_t eh) (Aa ?_))
     refine Ag (R := []) rfl rfl (Ao (e_t (Ak rfl (em rfl eh))) (e_t eh) (Aa ?_))
     refine BC ?_
     refine ⟨by simp [BV, okPairs, BS, FE], ?_⟩
     refine Ae ?_
     refine AC (e_t eh) hr (fun hr => ?_) (fun hr => ?_)
     rotate_left
     · refine AN (Ae ?_)
       exact ⟨hr, (Ai rfl (Ai rfl (Ak rfl (Ad rfl (Ac rfl h1))))), (Ai rfl (Ai rfl (Ad rfl (Ac rfl eh)))), rfl⟩
     refine Al (Af ?_)
     unfold IG
     refine Ab e_c (Aa (Ae (AI (AA ?_))))
     cases hr
     exact A7 (AF eh AH) (AM AG v_d) (Av hwf) h
   refine AY eh ?_
   refine Ag (R := []) rfl rfl (AB (e_t (Ai rfl (Ak rfl (Ad rfl (em rfl h1))))) (by exact rfl) (Aa ?_))
   refine AY (em rfl eh) ?_
   refine Ag rfl (Bz (e_t eh)) (Ap (e_t eh) ((Am rfl 0).trans rfl) (by exact rfl) (Aa ?_))
   refine AY (Ac rfl eh) ?_
   obtain ⟨v6, hc_v6, hr⟩ := bind_some hr
   refine F1 (Ay (e_t eh) AG AR) (Cb (e_t eh) (by exact rfl) FC) (fun st2 => JV n p0.Name hc_v6 ⟨rfl, rfl⟩) ?_
   refine AY (Ac rfl (em rfl eh)) ?_
   refine Ag (R := []) rfl rfl (CS (e_t eh) (Aa ?_))
   refine AY (Ad rfl (Ad rfl eh)) ?_
   refine Ag (R := []) rfl rfl (An (e_t (Ad rfl eh)) (e_t eh) (Aa ?_))
   refine Ag (R := []) rfl rfl (Ao (e_t (Ak rfl (em rfl eh))) (e_t eh) (Aa ?_))
   refine Ag (R := []) rfl rfl (Ab (e_t eh) (Aa ?_))
   refine CH eh hr (fun hr => ?_) (fun hr => ?_)
   · refine Az eh (Az (em rfl eh) (Az (Ac rfl eh) ?_))
     refine A2 eh ?_
     refine A2 (em rfl eh) ?_
     refine A2 (Ac rfl eh) ?_
     refine A2 (Ac rfl (em rfl eh)) ?_
     refine Az (Ad rfl (Ac rfl (em rfl eh))) ?_
     refine Ag (R := []) rfl rfl (An (e_t (Ad rfl (Ad rfl eh))) e_c (Aa ?_))
     refine BC ?_
     refine ⟨by simp [BV, okPairs, BS, FE], ?_⟩
     refine Ae ?_
     refine Dz (e_t eh) ?_
     refine Al (Af ?_)
     unfold IG
     refine Ab e_c (Aa (Ae (AI (AA ?_))))
     cases hr
     exact A7 (AF eh AH) (AM AG v_d) (Av hwf) h
   refine AY eh ?_
   refine Ag (R := []) rfl rfl (Ab (e_t (Ai rfl (Ak rfl (Ad rfl (em rfl eh))))) (Aa ?_))
   refine AY (em rfl eh) ?_
   obtain ⟨v7, hc_v7, hr⟩ := bind_some hr
   refine F1 (Ay (e_t eh) AG (Ay e_c AG AR)) (Cb (e_t eh) (by exact rfl) (Cb e_c (by exact rfl) FC)) (fun st2 => Ou n v2 (115 : Int) hc_v7 ⟨rfl, rfl⟩) ?_
   refine AY (Ac rfl eh) ?_
   refine Ag (R := []) rfl rfl (Ab (e_t eh) (Aa ?_))
   refine CH eh hr (fun hr => ?_) (fun hr => ?_)
   rotate_left
   · refine Az eh (Az (em rfl eh) (Az (Ac rfl eh) (Az (Ac rfl (em rfl eh)) (AY (Ad rfl (Ad rfl eh)) ?_))))
     refine Ag (R := []) rfl rfl (Ao (e_t (Ad rfl eh)) e_c (Aa ?_))
     refine Ag (R := []) rfl rfl (Ao (e_t (Ak rfl (em rfl eh))) (e_t eh) (Aa ?_))
     refine BC ?_
     refine ⟨by simp [BV, okPairs, BS, FE], ?_⟩
     refine Ae ?_
     refine EP (e_t eh) ?_
     refine AN (Ae ?_)
     exact ⟨hr, (Ai rfl (Ai rfl (Ak rfl (Ad rfl (Ac rfl (em rfl h1)))))), (Ai rfl (Ai rfl (Ad rfl (Ac rfl (em rfl eh))))), rfl⟩
   refine AY eh ?_
   refine Ag (R := []) rfl rfl (AB (e_t (Ai rfl (Ai rfl (Ak rfl (em rfl h1))))) (by exact rfl) (Aa ?_))
   refine AY (em rfl eh) ?_
   refine Ag rfl (Bz (e_t eh)) (Ap (e_t eh) ((Am rfl 0).trans rfl) (by exact rfl) (Aa ?_))
   refine AY (Ac rfl eh) ?_
   obtain ⟨v8, hc_v8, hr⟩ := bind_some hr
   refine F1 (Ay (e_t eh) AG AR) (Cb (e_t eh) (by exact rfl) FC) (fun st2 => JV n p0.Src hc_v8 ⟨rfl, rfl⟩) ?_
   refine AY (Ac rfl (em rfl eh)) ?_
   refine Ag (R := []) rfl rfl (CS (e_t eh) (Aa ?_))
   refine AY (Ad rfl (Ad rfl eh)) ?_
   refine Ag (R := []) rfl rfl (An (e_t (Ad rfl eh)) (e_t eh) (Aa ?_))
   refine Ag (R := []) rfl rfl (Ao (e_t (Ak rfl (em rfl eh))) (e_t eh) (Aa ?_))
   refine BC ?_
   refine ⟨by simp [BV, okPairs, BS, FE], ?_⟩
   refine Ae ?_
   refine AC (e_t eh) hr (fun hr => ?_) (fun hr => ?_)
   rotate_left
   · refine AN (Ae ?_)
     exact ⟨hr, (Ai rfl (Ai rfl (Ak rfl (Ad rfl (Ac rfl (em rfl h1)))))), (Ai rfl (Ai rfl (Ad rfl (Ac rfl (em rfl eh))))), rfl⟩
   refine Al (Af ?_)
   unfold IG
   refine Ab e_c (Aa (Ae (AI (AA ?_))))
   cases hr
   exact A7 (AF eh AH) (AM AG v_d) (Av hwf) h
 rintro f st' ⟨hr, h1, h4, rfl⟩
 rw [CY] at hr
 refine BD (fun f st' => CA p0 s_RBlocks n = some r ∧ f 1 = (.ptr (st.length + 0) 0) ∧ st' = st ++ [(.box [(.d (.int .i64 p0.Op)), (.d (.str p0.Name)), (.d (.str p0.Src)), (.d (.int .i64 p0.N)), (.d (.sl (List.map rS p0.Cols))), (.d (.sl (List.map TE.row p0.Exprs))), (.d (.sl (List.map TS.row p0.Body))), (.d (.sl (List.map TS.row p0.Else)))]), .fresh, .fresh, .fresh, .fresh, .fresh, .fresh, .fresh, .fresh, .fresh, .fresh]) ?_ ?_
 rotate_left
 · rintro f st' ⟨hr, h1, rfl⟩
   rw [CA] at hr
   refine BD (fun f st' => FI p0 s_RBlocks n = some r ∧ f 1 = (.ptr (st.length + 0) 0) ∧ st' = st ++ [(.box [(.d (.int .i64 p0.Op)), (.d (.str p0.Name)), (.d (.str p0.Src)), (.d (.int .i64 p0.N)), (.d (.sl (List.map rS p0.Cols))), (.d (.sl (List.map TE.row p0.Exprs))), (.d (.sl (List.map TS.row p0.Body))), (.d (.sl (List.map TS.row p0.Else)))]), .fresh, .fresh, .fresh, .fresh, .fresh, .fresh, .fresh, .fresh, .fresh, .fresh]) ?_ ?_
   · refine Al (Af ?_)
     unfold Wj
     refine Ab e_c (Aa (Ae ?_))
     refine AX ?_
     refine Ca (fun m f st' => ∃ (v19 : Int), CB p0 s_RBlocks n m v19 = some r ∧ f 1 = (.ptr (st.length + 0) 0) ∧ f 5 = (.d (.int .i64 v19)) ∧ st' = st ++ [(.box [(.d (.int .i64 p0.Op)), (.d (.str p0.Name)), (.d (.str p0.Src)), (.d (.int .i64 p0.N)), (.d (.sl (List.map rS p0.Cols))), (.d (.sl (List.map TE.row p0.Exprs))), (.d (.sl (List.map TS.row p0.Body))), (.d (.sl (List.map TS.row p0.Else)))]), .fresh, .fresh, .fresh, .fresh, .fresh, .fresh, .fresh, .fresh, .fresh, .fresh]) n (Ghost.refl _) ⟨(0 : Int), hr, (em rfl h1), eh, rfl⟩ ?_
     rintro m f st' ⟨v19, hr, h1, h5, rfl⟩
     cases m with
     | zero => cases hr
     | succ m_1 =>
       rw [CB] at hr
       generalize hrec_1 : CB p0 s_RBlocks n m_1 = q1 at hr
       rw [GJ] at hr
       unfold TM
       refine Al (Al (Af ?_))
       unfold Ur
       refine Ab (e_t h5) ?_
       refine AB (e_t (em rfl h1)) (by exact rfl) ?_
       refine Ap (e_t eh) ((Am rfl 0).trans rfl) (by exact rfl) ?_
       refine Bh (row := rS) (AL (e_t eh) Bq) ?_
       refine Ar (e_t (Ac rfl (em rfl eh))) (e_t eh) (CL ?_)
       refine Aa (Ae ?_)
       refine AC (e_t eh) hr (fun hr => ?_) (fun hr => ?_)
       rotate_left
       · refine CP ?_
         refine A0 ?_
         refine A0 ?_
         refine Ea ?_
         refine Ae ?_
         exact ⟨hr, (Ad rfl (em rfl h1)), rfl⟩
       refine AN (Ae (Al ?_))
       refine AX ?_
       refine Al (Al (Af ?_))
       unfold Vg
       refine AB (e_t (Ad rfl (em rfl h1))) (by exact rfl) ?_
       refine Ap (e_t eh) ((Am rfl 0).trans rfl) (by exact rfl) ?_
       refine Ab (e_t (Ad rfl (Ac rfl (em rfl h5)))) ?_
       refine Bt (row := rS) (AL (e_t (em rfl eh)) Bq) (e_t eh) hr (fun _ => rfl) (fun _ => rfl) (fun v20 hr => ?_)
       refine BG (e_t eh) (by exact rfl) ?_
       obtain ⟨v21, hc_v21, hr⟩ := bind_some hr
       refine AP (Ay (e_t eh) AG AR) ?_
       refine JV n v20 hc_v21 ?_
       refine CS (e_t eh) (Aa (Ae ?_))
       refine AC (e_t eh) hr (fun hr => ?_) (fun hr => ?_)
       · refine Al (Af ?_)
         unfold SI
         refine Ab e_c (Aa (Ae (AI (AA ?_))))
         refine BE ?_
         refine AA (AA ?_)
         refine BE ?_
         refine AA ?_
         cases hr
         exact A7 (AF eh AH) (AM AG v_d) (Av hwf) h
       refine AN (Ae (Al (Af ?_)))
       unfold Tb
       refine Ab e_c (Aa (Ae ?_))
       refine AX ?_
       refine Ca (fun m f st' => ∃ (v22 : Int), Cn p0 v19 q1 m v22 = some r ∧ f 1 = (.ptr (st.length + 0) 0) ∧ f 5 = (.d (.int .i64 v19)) ∧ f 6 = (.d (.int .i64 v22)) ∧ st' = st ++ [(.box [(.d (.int .i64 p0.Op)), (.d (.str p0.Name)), (.d (.str p0.Src)), (.d (.int .i64 p0.N)), (.d (.sl (List.map rS p0.Cols))), (.d (.sl (List.map TE.row p0.Exprs))), (.d (.sl (List.map TS.row p0.Body))), (.d (.sl (List.map TS.row p0.Else)))]), .fresh, .fresh, .fresh, .fresh, .fresh, .fresh, .fresh, .fresh, .fresh, .fresh]) n (Ghost.refl _) ⟨(0 : Int), hr, (Ak rfl (Ad rfl (em rfl h1))), (Ak rfl (Ad rfl (em rfl h5))), eh, rfl⟩ ?_
       rintro m f st' ⟨v22, hr, h1, h5, h6, rfl⟩
       cases m with
       | zero => cases hr
       | succ m_2 =>
         rw [Cn] at hr
         generalize hrec_2 : Cn p0 v19 q1 m_2 = q2 at hr
         rw [GV] at hr
         unfold Ut
         refine Al (Al (Af ?_))
         unfold Uz
         refine Ab (e_t h6) (Ab (e_t (em rfl h5)) ?_)
         refine Ar (e_t (em rfl eh)) (e_t eh) (CL ?_)
         refine Aa (Ae ?_)
         refine AC (e_t eh) hr (fun hr => ?_) (fun hr => ?_)
         rotate_left
         · refine CP ?_
           refine A0 ?_
           refine A0 ?_
           refine Ea ?_
           refine BA ?_
           refine Ae (Af ?_)
           unfold SY
           refine Ab (e_t (Ac rfl (em rfl h5))) ?_
           refine Ar (e_t eh) e_c (BX ?_)
           refine Ab (e_t eh) (Aa (Ae ?_))
           exact ⟨m_1, _, Nat.lt_succ_self m_1, Ghost.refl _, (IntKind.wrap .i64 (v19 + (1 : Int))), (by rw [hrec_1]; exact hr), (Ad rfl (Ac rfl h1)), eh, rfl⟩
         refine AN (Ae (Al ?_))
         refine AX ?_
         refine Al ?_
         refine DI (k := 11) rfl rfl ?_
         unfold Uh
         refine AB (e_t (Ac rfl (em rfl h1))) (by exact rfl) ?_
         refine Ap (e_t eh) ((Am rfl 0).trans rfl) (by exact rfl) ?_
         refine Ab (e_t (Ad rfl (em rfl h6))) ?_
         refine Bt (row := rS) (AL (e_t (em rfl eh)) Bq) (e_t eh) hr (fun _ => rfl) (fun _ => rfl) (fun v23 hr => ?_)
         refine BG (e_t eh) (by exact rfl) ?_
         refine AB (e_t (Ad rfl (Ad rfl h1))) (by exact rfl) ?_
         refine Ap (e_t eh) ((Am rfl 0).trans rfl) (by exact rfl) ?_
         refine Ab (e_t (Ak rfl (Ac rfl h5))) ?_
         refine Bt (row := rS) (AL (e_t (em rfl eh)) Bq) (e_t eh) hr (fun _ => rfl) (fun _ => rfl) (fun v24 hr => ?_)
         refine BG (e_t eh) (by exact rfl) ?_
         refine Ar (e_t (Ad rfl (em rfl eh))) (e_t eh) (Db ?_)
         refine Aa (Ae ?_)
         refine AC (e_t eh) hr (fun hr => ?_) (fun hr => ?_)
         rotate_left
         · refine AN ?_
           refine BA ?_
           refine Ae (Af ?_)
           unfold Tk
           refine Ab (e_t (Ak rfl (Ad rfl (Ac rfl h6)))) ?_
           refine Ar (e_t eh) e_c (BX ?_)
           refine Ab (e_t eh) (Aa (Ae ?_))
           exact ⟨m_2, _, Nat.lt_succ_self m_2, Ghost.refl _, (IntKind.wrap .i64 (v22 + (1 : Int))), (by rw [hrec_2]; exact hr), (Ai rfl (em rfl h1)), (Ai rfl (em rfl h5)), eh, rfl⟩
         refine Al (Af ?_)
         unfold Uf
         refine Ab e_c (Aa (Ae (AI ?_)))
         refine BE ?_
         refine AA (AA ?_)
         refine BE ?_
         refine BE ?_
         refine AA (AA ?_)
         refine BE ?_
         refine AA ?_
         cases hr
         exact A7 (AF eh AH) (AM AG v_d) (Av hwf) h
   rintro f st' ⟨hr, h1, rfl⟩
   rw [FI] at hr
   refine Al (Af ?_)
   unfold S4
   refine AB (e_t h1) (by exact rfl) ?_
   refine Ap (e_t eh) ((Am rfl 0).trans rfl) (by exact rfl) ?_
   refine Bh (row := TE.row) (AL (e_t eh) Bq) ?_
   refine Ab (e_t eh) (Aa (Ae ?_))
   refine BD (fun f st' => ∃ (v25 : Bool), Fe p0 s_RBlocks n v25 = some r ∧ f 1 = (.ptr (st.length + 0) 0) ∧ f 7 = (.d (.int .i64 (p0.Exprs.length : Int))) ∧ f 8 = (.d (.bool v25)) ∧ st' = st ++ [(.box [(.d (.int .i64 p0.Op)), (.d (.str p0.Name)), (.d (.str p0.Src)), (.d (.int .i64 p0.N)), (.d (.sl (List.map rS p0.Cols))), (.d (.sl (List.map TE.row p0.Exprs))), (.d (.sl (List.map TS.row p0.Body))), (.d (.sl (List.map TS.row p0.Else)))]), .fresh, .fresh, .fresh, .fresh, .fresh, .fresh, .fresh, .fresh, .fresh, .fresh]) ?_ ?_
   · refine Af ?_
     unfold U2
     refine Bo ?_
     unfold Q8
     refine AB (e_t (Ad rfl h1)) (by exact rfl) ?_
     refine Ap (e_t eh) ((Am rfl 0).trans rfl) (by exact rfl) ?_
     refine Ar (e_t eh) e_c (BZ ?_)
     refine Ab (e_t eh) ?_
     refine Au eh hr (fun hr => ?_) (fun hr => ?_)
     · refine Ah eh (Ah (em rfl eh) (Ah (Ac rfl eh) (An (e_t (Ac rfl (em rfl eh))) e_c (Aa ?_))))
       refine Bo ?_
       unfold LB
       refine Ab (e_t eh) (Ah eh (Ah (em rfl eh) (Ah (Ac rfl eh) (An (e_t (Ac rfl (em rfl eh))) e_c (Aa ?_)))))
       unfold I5
       refine Ab (e_t eh) (Aa (Ae ?_))
       exact ⟨true, hr, (Ai rfl (Ac rfl (em rfl h1))), (Ak rfl (Ad rfl (Ac rfl (em rfl eh)))), eh, rfl⟩
     refine Aj eh ?_
     refine AB (e_t (Ak rfl (em rfl h1))) (by exact rfl) ?_
     refine Aj (em rfl eh) ?_
     refine Ap (e_t eh) ((Am rfl 0).trans rfl) (by exact rfl) ?_
     refine Aj (Ac rfl eh) ?_
     refine Ar (e_t eh) e_c (BZ ?_)
     refine Ao (e_t (Ac rfl (em rfl eh))) (e_t eh) (Aa ?_)
     refine Bo ?_
     unfold LB
     refine Ab (e_t eh) ?_
     refine Au eh hr (fun hr => ?_) (fun hr => ?_)
     · refine Ah eh (Ah (em rfl eh) (Ah (Ac rfl eh) (An (e_t (Ac rfl (em rfl eh))) e_c (Aa ?_))))
       unfold I5
       refine Ab (e_t eh) (Aa (Ae ?_))
       exact ⟨true, hr, (Ai rfl (Ad rfl h1)), (Ak rfl (Ad rfl (Ad rfl eh))), eh, rfl⟩
     refine Aj eh ?_
     refine AB (e_t (Ak rfl (Ad rfl (Ac rfl (em rfl h1))))) (by exact rfl) ?_
     refine Aj (em rfl eh) ?_
     refine Ap (e_t eh) ((Am rfl 0).trans rfl) (by exact rfl) ?_
     refine Aj (Ac rfl eh) ?_
     refine Ar (e_t eh) e_c (BZ ?_)
     refine Ao (e_t (Ac rfl (em rfl eh))) (e_t eh) (Aa ?_)
     unfold I5
     refine Ab (e_t eh) (Aa (Ae ?_))
     exact ⟨(decide (p0.Op = (10 : Int))), hr, (Ai rfl (Ad rfl h1)), (Ak rfl (Ad rfl (Ad rfl eh))), eh, rfl⟩
   rintro f st' ⟨v25, hr, h1, h7, h8, rfl⟩
   rw [Fe] at hr
   refine BD (fun f st' => Fj p0 s_RBlocks n = some r ∧ f 1 = (.ptr (st.length + 0) 0) ∧ f 7 = (.d (.int .i64 (p0.Exprs.length : Int))) ∧ st' = st ++ [(.box [(.d (.int .i64 p0.Op)), (.d (.str p0.Name)), (.d (.str p0.Src)), (.d (.int .i64 p0.N)), (.d (.sl (List.map rS p0.Cols))), (.d (.sl (List.map TE.row p0.Exprs))), (.d (.sl (List.map TS.row p0.Body))), (.d (.sl (List.map TS.row p0.Else)))]), .fresh, .fresh, .fresh, .fresh, .fresh, .fresh, .fresh, .fresh, .fresh, .fresh]) ?_ ?_
   · refine Al (Af ?_)
     unfold SW
     refine Bb (fun f st' => ∃ (v26 : Bool), FJ p0 s_RBlocks n v25 v26 = some r ∧ f 1 = (.ptr (st.length + 0) 0) ∧ f 7 = (.d (.int .i64 (p0.Exprs.length : Int))) ∧ f 8 = (.d (.bool v25)) ∧ f 167 = (.d (.bool v26)) ∧ st' = st ++ [(.box [(.d (.int .i64 p0.Op)), (.d (.str p0.Name)), (.d (.str p0.Src)), (.d (.int .i64 p0.N)), (.d (.sl (List.map rS p0.Cols))), (.d (.sl (List.map TE.row p0.Exprs))), (.d (.sl (List.map TS.row p0.Body))), (.d (.sl (List.map TS.row p0.Else)))]), .fresh, .fresh, .fresh, .fresh, .fresh, .fresh, .fresh, .fresh, .fresh, .fresh]) ?_ ?_
     · unfold Qx
       refine Ab (e_t h8) (Ab (e_t eh) ?_)
       refine Au eh hr (fun hr => ?_) (fun hr => ?_)
       rotate_left
       · refine Ah eh (Ah (em rfl eh) (Ah (Ac rfl eh) ?_))
         refine A8 eh ?_
         refine A8 (em rfl eh) ?_
         refine Ah (Ad rfl (em rfl eh)) (Ao (e_t (Ad rfl (Ac rfl eh))) e_c (Aa ?_))
         exact ⟨false, hr, (Ak rfl (Ac rfl h1)), (Ak rfl (Ac rfl h7)), (Ak rfl (Ac rfl h8)), eh, rfl⟩
       refine Aj eh (Ab (e_t (Ac rfl (em rfl h7))) (Aj (em rfl eh) ?_))
       refine Ar (e_t eh) e_c (CL ?_)
       refine Aj (Ac rfl eh) (Ab (e_t eh) ?_)
       refine Au eh hr (fun hr => ?_) (fun hr => ?_)
       · refine Ah eh (Ah (em rfl eh) (Aj (Ad rfl (Ac rfl eh)) (An (e_t (Ac rfl eh)) e_c (An (e_t (Ad rfl (Ac rfl (em rfl eh)))) (e_t eh) (Aa ?_)))))
         exact ⟨true, hr, (Ak rfl (Ac rfl (em rfl h1))), (Ak rfl (Ac rfl (em rfl h7))), (Ak rfl (Ac rfl (em rfl h8))), eh, rfl⟩
       refine Aj eh (Ab (e_t (Ad rfl (Ac rfl (em rfl h7)))) (Aj (em rfl eh) ?_))
       refine Ar (e_t eh) e_c (C8 ?_)
       refine Aj (Ad rfl (Ac rfl eh)) (Ao (e_t (Ac rfl eh)) (e_t eh) (An (e_t (Ad rfl (Ac rfl (em rfl eh)))) (e_t eh) (Aa ?_)))
       exact ⟨(decide ((8 : Int) < (p0.Exprs.length : Int))), hr, (Ak rfl (Ac rfl (em rfl h1))), (Ak rfl (Ac rfl (em rfl h7))), (Ak rfl (Ac rfl (em rfl h8))), eh, rfl⟩
     rintro f st' ⟨v26, hr, h1, h7, h8, h167, rfl⟩
     rw [FJ] at hr
     unfold Qq
     refine Ab (e_t h167) ?_
     refine Au eh hr (fun hr => ?_) (fun hr => ?_)
     · refine Ah eh (Ah (em rfl eh) (Ah (Ac rfl eh) ?_))
       refine A8 eh ?_
       refine A8 (em rfl eh) ?_
       refine A8 (Ac rfl eh) ?_
       refine A8 (Ac rfl (em rfl eh)) ?_
       refine A8 (Ad rfl eh) ?_
       refine A8 (Ad rfl (em rfl eh)) ?_
       refine Ah (Ak rfl (em rfl eh)) (An (e_t (Ak rfl (Ac rfl eh))) e_c (Aa (Ae ?_)))
       refine Dz (e_t eh) ?_
       refine Al (Af ?_)
       unfold OD
       refine Ab e_c (Aa (Ae (AI (AA ?_))))
       cases hr
       exact A7 (AF eh AH) (AM AG v_d) (Av hwf) h
     refine Aj eh (Ab (e_t (Ac rfl h8)) (Aj (em rfl eh) (CS (e_t eh) (Aj (Ac rfl eh) (Ab (e_t eh) ?_)))))
     refine Au eh hr (fun hr => ?_) (fun hr => ?_)
     rotate_left
     · refine Ah eh (Ah (em rfl eh) (Ah (Ac rfl eh) (Ah (Ac rfl (em rfl eh)) (Ah (Ad rfl eh) (Ah (Ad rfl (em rfl eh)) ?_)))))
       refine Aj (Ak rfl (Ac rfl eh)) (Ao (e_t (Ad rfl (Ac rfl eh))) e_c (Ao (e_t (Ak rfl (Ac rfl (em rfl eh)))) (e_t eh) (Aa (Ae ?_))))
       refine EP (e_t eh) ?_
       refine AN (Ae ?_)
       exact ⟨hr, (Ak rfl (Ad rfl (Ac rfl h1))), (Ak rfl (Ad rfl (Ac rfl h7))), rfl⟩
     refine Aj eh (Ab (e_t (Ad rfl (Ac rfl h7))) (Aj (em rfl eh) ?_))
     refine AB (e_t (Ad rfl (Ac rfl (em rfl h1)))) (by exact rfl) ?_
     refine Aj (Ac rfl eh) ?_
     refine Ap (e_t eh) ((Am rfl 0).trans rfl) (by exact rfl) ?_
     refine Aj (Ac rfl (em rfl eh)) ?_
     refine Bh (row := rS) (AL (e_t eh) Bq) ?_
     refine Aj (Ad rfl eh) ?_
     refine Ar e_c (e_t eh) (BX ?_)
     refine Aj (Ad rfl (em rfl eh)) ?_
     refine Ar (e_t (Ad rfl eh)) (e_t eh) (Sf ?_)
     refine Aj (Ak rfl (Ac rfl eh)) (An (e_t (Ad rfl (Ac rfl eh))) (e_t eh) (Ao (e_t (Ak rfl (Ac rfl (em rfl eh)))) (e_t eh) (Aa (Ae ?_))))
     refine AC (e_t eh) hr (fun hr => ?_) (fun hr => ?_)
     rotate_left
     · refine AN (Ae ?_)
       exact ⟨hr, (Ak rfl (Ad rfl (Ac rfl h1))), (Ak rfl (Ad rfl (Ac rfl h7))), rfl⟩
     refine Al (Af ?_)
     unfold OD
     refine Ab e_c (Aa (Ae (AI (AA ?_))))
     cases hr
     exact A7 (AF eh AH) (AM AG v_d) (Av hwf) h
   rintro f st' ⟨hr, h1, h7, rfl⟩
   rw [Fj] at hr
   refine BD (fun f st' => GI p0 s_RBlocks = some r ∧ f 1 = (.ptr (st.length + 0) 0) ∧ st' = st ++ [(.box [(.d (.int .i64 p0.Op)), (.d (.str p0.Name)), (.d (.str p0.Src)), (.d (.int .i64 p0.N)), (.d (.sl (List.map rS p0.Cols))), (.d (.sl (List.map TE.row p0.Exprs))), (.d (.sl (List.map TS.row p0.Body))), (.d (.sl (List.map TS.row p0.Else)))]), .fresh, .fresh, .fresh, .fresh, .fresh, .fresh, .fresh, .fresh, .fresh, .fresh]) ?_ ?_
   rotate_left
   · rintro f st' ⟨hr, h1, rfl⟩
     rw [GI] at hr
     refine Al (Af ?_)
     unfold Tc
     refine Bo ?_
     unfold Qj
     refine AB (e_t h1) (by exact rfl) ?_
     refine Ap (e_t eh) ((Am rfl 0).trans rfl) (by exact rfl) ?_
     obtain ⟨v30, hc_v30, hr⟩ := bind_some hr
     refine AP (Ay (e_t eh) AG AR) ?_
     refine H_s_RBlocks p0.Body hc_v30 ?_
     refine Ab (e_t eh) ?_
     refine Au eh hr (fun hr => ?_) (fun hr => ?_)
     rotate_left
     · refine Ah eh (Ah (em rfl eh) (Ah (Ac rfl eh) (Ao (e_t (Ac rfl (em rfl eh))) e_c (Aa ?_))))
       unfold L7
       refine Ab (e_t eh) (Aa (Ae (AI ?_)))
       cases hr
       exact A7 (AF eh AH) (AM AG v_d) (Av hwf) h
     refine Aj eh ?_
     refine AB (e_t (Ad rfl (em rfl h1))) (by exact rfl) ?_
     refine Aj (em rfl eh) ?_
     refine Ap (e_t eh) ((Am rfl 0).trans rfl) (by exact rfl) ?_
     refine Aj (Ac rfl eh) ?_
     obtain ⟨v31, hc_v31, hr⟩ := bind_some hr
     refine AP (Ay (e_t eh) AG AR) ?_
     refine H_s_RBlocks p0.Else hc_v31 ?_
     refine An (e_t (Ac rfl (em rfl eh))) (e_t eh) (Aa ?_)
     unfold L7
     refine Ab (e_t eh) (Aa (Ae (AI ?_)))
     cases hr
     exact A7 (AF eh AH) (AM AG v_d) (Av hwf) h
   refine Al (Af ?_)
   unfold UG
   refine Ab e_c (Aa (Ae ?_))
   refine AX ?_
   refine Ca (fun m f st' => ∃ (v27 : Int), CC p0 s_RBlocks n m v27 = some r ∧ f 1 = (.ptr (st.length + 0) 0) ∧ f 7 = (.d (.int .i64 (p0.Exprs.length : Int))) ∧ f 9 = (.d (.int .i64 v27)) ∧ st' = st ++ [(.box [(.d (.int .i64 p0.Op)), (.d (.str p0.Name)), (.d (.str p0.Src)), (.d (.int .i64 p0.N)), (.d (.sl (List.map rS p0.Cols))), (.d (.sl (List.map TE.row p0.Exprs))), (.d (.sl (List.map TS.row p0.Body))), (.d (.sl (List.map TS.row p0.Else)))]), .fresh, .fresh, .fresh, .fresh, .fresh, .fresh, .fresh, .fresh, .fresh, .fresh]) n (Ghost.refl _) ⟨(0 : Int), hr, (em rfl h1), (em rfl h7), eh, rfl⟩ ?_
   rintro m f st' ⟨v27, hr, h1, h7, h9, rfl⟩
   cases m with
   | zero => cases hr
   | succ m_0 =>
     rw [CC] at hr
     generalize hrec_0 : CC p0 s_RBlocks n m_0 = q0 at hr
     rw [GQ] at hr
     unfold Vj
     refine Al (Al (Af ?_))
     unfold TJ
     refine Ab (e_t h9) (Ab (e_t (em rfl h7)) ?_)
     refine Ar (e_t (em rfl eh)) (e_t eh) (CL ?_)
     refine Aa (Ae ?_)
     refine AC (e_t eh) hr (fun hr => ?_) (fun hr => ?_)
     rotate_left
     · refine CP ?_
       refine A0 ?_
       refine A0 ?_
       refine Ea ?_
       refine Ae ?_
       exact ⟨hr, (Ac rfl (em rfl h1)), rfl⟩
     refine AN (Ae (Al ?_))
     refine AX ?_
     refine Al (Af ?_)
     unfold UL
     refine AB (e_t (Ac rfl (em rfl h1))) (by exact rfl) ?_
     refine Ap (e_t eh) ((Am rfl 0).trans rfl) (by exact rfl) ?_
     refine Ab (e_t (Ad rfl (em rfl h9))) ?_
     refine Bt (row := TE.row) (AL (e_t (em rfl eh)) Bq) (e_t eh) hr TE.row_eq (fun _ => rfl) (fun v28 hr => ?_)
     refine DH (e_t eh) (Nat.le_of_ble_eq_true rfl) (by exact rfl) ?_
     obtain ⟨v29, hc_v29, hr⟩ := bind_some hr
     refine AP (Ay (e_t eh) (BP (Aq f_d (Aq f_d (Aq f_d (Aq f_d (Aq f_d (Aq f_d Cw))))))) AR) ?_
     refine Aj6 n v28 hc_v29 ?_
     refine CS (e_t eh) (Aa (Ae ?_))
     refine AC (e_t eh) hr (fun hr => ?_) (fun hr => ?_)
     rotate_left
     · refine AN ?_
       refine BA ?_
       refine Ae (Af ?_)
       unfold Vp
       refine Ab (e_t (Ak rfl (Ac rfl h9))) ?_
       refine Ar (e_t eh) e_c (BX ?_)
       refine Ab (e_t eh) (Aa (Ae ?_))
       exact ⟨m_0, _, Nat.lt_succ_self m_0, Ghost.refl _, (IntKind.wrap .i64 (v27 + (1 : Int))), (by rw [hrec_0]; exact hr), (Ak rfl (Ad rfl (em rfl h1))), (Ak rfl (Ad rfl (em rfl h7))), eh, rfl⟩
     refine Al (Af ?_)
     unfold TL
     refine Ab e_c (Aa (Ae (AI ?_)))
     refine BE ?_
     refine AA (AA ?_)
     refine BE ?_
     refine AA ?_
     cases hr
     exact A7 (AF eh AH) (AM AG v_d) (Av hwf) h
 refine Al ?_
 refine Hb (k := 7) rfl rfl ?_
 unfold VY
 refine Ag (R := []) rfl rfl (Ab (e_t h4) (Aa ?_))
 obtain ⟨v11, hc_v11, hr⟩ := bind_some hr
 refine F1 (Ay (e_t eh) AG (Ay e_c AG AR)) (Cb (e_t eh) (by exact rfl) (Cb e_c (by exact rfl) FC)) (fun st2 => Ou n v2 (99 : Int) hc_v11 ⟨rfl, rfl⟩) ?_
 refine Ag (R := []) rfl rfl (AB (e_t (Ac rfl h1)) (by exact rfl) (Aa ?_))
 refine Ag rfl (Bz (e_t eh)) (Ap (e_t eh) ((Am rfl 0).trans rfl) (by exact rfl) (Aa ?_))
 refine Ag rfl (JW (e_t eh)) (Bh (row := rS) (AL (e_t eh) Bq) (Aa ?_))
 refine Ag (R := []) rfl rfl (Ar (e_t eh) e_c (C8 (Aa ?_)))
 refine Ag (R := []) rfl rfl (AD9 (e_t (Ad rfl eh)) (e_t eh) (Aa ?_))
 refine Ag (R := []) rfl rfl (Ab (e_t eh) (Aa ?_))
 refine CH eh hr (fun hr => ?_) (fun hr => ?_)
 · refine Az eh (Az (em rfl eh) (Az (Ac rfl eh) (Az (Ac rfl (em rfl eh)) ?_)))
   refine Ag (R := []) rfl rfl (An (e_t (Ad rfl eh)) e_c (Aa ?_))
   refine Ag (R := []) rfl rfl (Ab (e_t eh) (Aa ?_))
   refine Az eh (Az (em rfl eh) (Az (Ac rfl eh) (Az (Ac rfl (em rfl eh)) ?_)))
   refine A2 eh ?_
   refine A2 (em rfl eh) ?_
   refine A2 (Ac rfl eh) ?_
   refine Az (Ad rfl (Ac rfl (em rfl eh))) ?_
   refine Ag (R := []) rfl rfl (An (e_t (Ad rfl (Ad rfl eh))) e_c (Aa ?_))
   refine Ag (R := []) rfl rfl (Ab (e_t eh) (Aa ?_))
   refine Az eh (Az (em rfl eh) (Az (Ac rfl eh) ?_))
   refine Ag (R := []) rfl rfl (An (e_t (Ac rfl (em rfl eh))) e_c (Aa ?_))
   refine Ag (R := []) rfl rfl (Ab (e_t eh) (Aa ?_))
   refine Az eh (Az (em rfl eh) (Az (Ac rfl eh) ?_))
   refine Ag (R := []) rfl rfl (An (e_t (Ac rfl (em rfl eh))) e_c (Aa ?_))
   refine Ag (R := []) rfl rfl (Ab (e_t eh) (Aa ?_))
   refine Az eh (Az (em rfl eh) (Az (Ac rfl eh) (Az (Ac rfl (em rfl eh)) ?_)))
   refine A2 eh ?_
   refine A2 (em rfl eh) ?_
   refine A2 (Ac rfl eh) ?_
   refine A2 (Ac rfl (em rfl eh)) ?_
   refine Az (Ad rfl (Ad rfl eh)) ?_
   refine Ag (R := []) rfl rfl (An (e_t (Ak rfl (em rfl eh))) e_c (Aa ?_))
   refine Ag (R := []) rfl rfl (Ab (e_t eh) (Aa ?_))
   refine Az eh (Az (em rfl eh) (Az (Ac rfl eh) (Az (Ac rfl (em rfl eh)) ?_)))
   refine A2 eh ?_
   refine A2 (em rfl eh) ?_
   refine A2 (Ac rfl eh) ?_
   refine A2 (Ac rfl (em rfl eh)) ?_
   refine Az (Ad rfl (Ad rfl eh)) ?_
   refine Ag (R := []) rfl rfl (An (e_t (Ak rfl (em rfl eh))) e_c (Aa ?_))
   refine BC ?_
   refine ⟨by simp [BV, okPairs, BS, FE], ?_⟩
   refine Ae ?_
   refine Dz (e_t eh) ?_
   refine Al (Af ?_)
   unfold Df
   refine Ab e_c (Aa (Ae (AI (AA ?_))))
   cases hr
   exact A7 (AF eh AH) (AM AG v_d) (Av hwf) h
 refine AY eh ?_
 refine Ag (R := []) rfl rfl (AB (e_t (Ak rfl (em rfl h1))) (by exact rfl) (Aa ?_))
 refine AY (em rfl eh) ?_
 refine Ag rfl (Bz (e_t eh)) (Ap (e_t eh) ((Am rfl 0).trans rfl) (by exact rfl) (Aa ?_))
 refine AY (Ac rfl eh) ?_
 refine Ag rfl (JW (e_t eh)) (Bh (row := rS) (AL (e_t eh) Bq) (Aa ?_))
 refine AY (Ac rfl (em rfl eh)) ?_
 refine Ag (R := []) rfl rfl (Ar (e_t eh) e_c (C8 (Aa ?_)))
 refine Ag (R := []) rfl rfl (Ao (e_t (Ad rfl eh)) (e_t eh) (Aa ?_))
 refine Ag (R := []) rfl rfl (Ab (e_t eh) (Aa ?_))
 refine CH eh hr (fun hr => ?_) (fun hr => ?_)
 · refine Az eh (Az (em rfl eh) (Az (Ac rfl eh) (Az (Ac rfl (em rfl eh)) ?_)))
   refine A2 eh ?_
   refine A2 (em rfl eh) ?_
   refine A2 (Ac rfl eh) ?_
   refine Az (Ad rfl (Ac rfl (em rfl eh))) ?_
   refine Ag (R := []) rfl rfl (An (e_t (Ad rfl (Ad rfl eh))) e_c (Aa ?_))
   refine Ag (R := []) rfl rfl (Ab (e_t eh) (Aa ?_))
   refine Az eh (Az (em rfl eh) (Az (Ac rfl eh) ?_))
   refine Ag (R := []) rfl rfl (An (e_t (Ac rfl (em rfl eh))) e_c (Aa ?_))
   refine Ag (R := []) rfl rfl (Ab (e_t eh) (Aa ?_))
   refine Az eh (Az (em rfl eh) (Az (Ac rfl eh) ?_))
   refine Ag (R := []) rfl rfl (An (e_t (Ac rfl (em rfl eh))) e_c (Aa ?_))
   refine Ag (R := []) rfl rfl (Ab (e_t eh) (Aa ?_))
   refine Az eh (Az (em rfl eh) (Az (Ac rfl eh) (Az (Ac rfl (em rfl eh)) ?_)))
   refine A2 eh ?_
   refine A2 (em rfl eh) ?_
   refine A2 (Ac rfl eh) ?_
   refine A2 (Ac rfl (em rfl eh)) ?_
   refine Az (Ad rfl (Ad rfl eh)) ?_
   refine Ag (R := []) rfl rfl (An (e_t (Ak rfl (em rfl eh))) e_c (Aa ?_))
   refine Ag (R := []) rfl rfl (Ab (e_t eh) (Aa ?_))
   refine Az eh (Az (em rfl eh) (Az (Ac rfl eh) (Az (Ac rfl (em rfl eh)) ?_)))
   refine A2 eh ?_
   refine A2 (em rfl eh) ?_
   refine A2 (Ac rfl eh) ?_
   refine A2 (Ac rfl (em rfl eh)) ?_
   refine Az (Ad rfl (Ad rfl eh)) ?_
   refine Ag (R := []) rfl rfl (An (e_t (Ak rfl (em rfl eh))) e_c (Aa ?_))
   refine BC ?_
   refine ⟨by simp [BV, okPairs, BS, FE], ?_⟩
   refine Ae ?_
   refine Dz (e_t eh) ?_
   refine Al (Af ?_)
   unfold Df
   refine Ab e_c (Aa (Ae (AI (AA ?_))))
   cases hr
   exact A7 (AF eh AH) (AM AG v_d) (Av hwf) h
 refine AY eh ?_
 refine Ag (R := []) rfl rfl (Ab (e_t (Ak rfl (Ad rfl (Ad rfl h4)))) (Aa ?_))
 refine AY (em rfl eh) ?_
 obtain ⟨v12, hc_v12, hr⟩ := bind_some hr
 refine F1 (Ay (e_t eh) AG (Ay e_c AG AR)) (Cb (e_t eh) (by exact rfl) (Cb e_c (by exact rfl) FC)) (fun st2 => Ou n v2 (78 : Int) hc_v12 ⟨rfl, rfl⟩) ?_
 refine AY (Ac rfl eh) ?_
 refine Ag (R := []) rfl rfl (CS (e_t eh) (Aa ?_))
 refine AY (Ac rfl (em rfl eh)) ?_
 refine Ag (R := []) rfl rfl (Ab (e_t eh) (Aa ?_))
 refine CH eh hr (fun hr => ?_) (fun hr => ?_)
 rotate_left
 · refine Az eh (Az (em rfl eh) (Az (Ac rfl eh) (AY (Ad rfl (Ad rfl eh)) ?_)))
   refine Ag (R := []) rfl rfl (Ao (e_t (Ac rfl (em rfl eh))) e_c (Aa ?_))
   refine Ag (R := []) rfl rfl (Ao (e_t (Ak rfl (em rfl eh))) (e_t eh) (Aa ?_))
   refine Ag (R := []) rfl rfl (Ab (e_t eh) (Aa ?_))
   refine AY eh ?_
   refine Ag (R := []) rfl rfl (AB (e_t (Ai rfl (Ak rfl (Ac rfl (em rfl h1))))) (by exact rfl) (Aa ?_))
   refine AY (em rfl eh) ?_
   refine Ag rfl (Bz (e_t eh)) (Ap (e_t eh) ((Am rfl 0).trans rfl) (by exact rfl) (Aa ?_))
   refine AY (Ac rfl eh) ?_
   refine Ag (R := []) rfl rfl (Ar (e_t eh) e_c (CL (Aa ?_)))
   refine Ag (R := []) rfl rfl (Ao (e_t (Ac rfl (em rfl eh))) (e_t eh) (Aa ?_))
   refine Ag (R := []) rfl rfl (Ab (e_t eh) (Aa ?_))
   refine CH eh hr (fun hr => ?_) (fun hr => ?_)
   · refine Az eh (Az (em rfl eh) (Az (Ac rfl eh) ?_))
     refine Ag (R := []) rfl rfl (An (e_t (Ac rfl (em rfl eh))) e_c (Aa ?_))
     refine Ag (R := []) rfl rfl (Ab (e_t eh) (Aa ?_))
     refine Az eh (Az (em rfl eh) (Az (Ac rfl eh) (Az (Ac rfl (em rfl eh)) ?_)))
     refine A2 eh ?_
     refine A2 (em rfl eh) ?_
     refine A2 (Ac rfl eh) ?_
     refine A2 (Ac rfl (em rfl eh)) ?_
     refine Az (Ad rfl (Ad rfl eh)) ?_
     refine Ag (R := []) rfl rfl (An (e_t (Ak rfl (em rfl eh))) e_c (Aa ?_))
     refine Ag (R := []) rfl rfl (Ab (e_t eh) (Aa ?_))
     refine Az eh (Az (em rfl eh) (Az (Ac rfl eh) (Az (Ac rfl (em rfl eh)) ?_)))
     refine A2 eh ?_
     refine A2 (em rfl eh) ?_
     refine A2 (Ac rfl eh) ?_
     refine A2 (Ac rfl (em rfl eh)) ?_
     refine Az (Ad rfl (Ad rfl eh)) ?_
     refine Ag (R := []) rfl rfl (An (e_t (Ak rfl (em rfl eh))) e_c (Aa ?_))
     refine BC ?_
     refine ⟨by simp [BV, okPairs, BS, FE], ?_⟩
     refine Ae ?_
     refine Dz (e_t eh) ?_
     refine Al (Af ?_)
     unfold Df
     refine Ab e_c (Aa (Ae (AI (AA ?_))))
     cases hr
     exact A7 (AF eh AH) (AM AG v_d) (Av hwf) h
   refine AY eh ?_
   refine Ag (R := []) rfl rfl (AB (e_t (Ai rfl (Ai rfl (em rfl h1)))) (by exact rfl) (Aa ?_))
   refine AY (em rfl eh) ?_
   refine Ag rfl (Bz (e_t eh)) (Ap (e_t eh) ((Am rfl 0).trans rfl) (by exact rfl) (Aa ?_))
   refine AY (Ac rfl eh) ?_
   refine Ag (R := []) rfl rfl (Ar (e_t eh) e_c (C8 (Aa ?_)))
   refine Ag (R := []) rfl rfl (Ao (e_t (Ac rfl (em rfl eh))) (e_t eh) (Aa ?_))
   refine Ag (R := []) rfl rfl (Ab (e_t eh) (Aa ?_))
   refine CH eh hr (fun hr => ?_) (fun hr => ?_)
   · refine Az eh (Az (em rfl eh) (Az (Ac rfl eh) (Az (Ac rfl (em rfl eh)) ?_)))
     refine A2 eh ?_
     refine A2 (em rfl eh) ?_
     refine A2 (Ac rfl eh) ?_
     refine A2 (Ac rfl (em rfl eh)) ?_
     refine Az (Ad rfl (Ad rfl eh)) ?_
     refine Ag (R := []) rfl rfl (An (e_t (Ak rfl (em rfl eh))) e_c (Aa ?_))
     refine Ag (R := []) rfl rfl (Ab (e_t eh) (Aa ?_))
     refine Az eh (Az (em rfl eh) (Az (Ac rfl eh) (Az (Ac rfl (em rfl eh)) ?_)))
     refine A2 eh ?_
     refine A2 (em rfl eh) ?_
     refine A2 (Ac rfl eh) ?_
     refine A2 (Ac rfl (em rfl eh)) ?_
     refine Az (Ad rfl (Ad rfl eh)) ?_
     refine Ag (R := []) rfl rfl (An (e_t (Ak rfl (em rfl eh))) e_c (Aa ?_))
     refine BC ?_
     refine ⟨by simp [BV, okPairs, BS, FE], ?_⟩
     refine Ae ?_
     refine Dz (e_t eh) ?_
     refine Al (Af ?_)
     unfold Df
     refine Ab e_c (Aa (Ae (AI (AA ?_))))
     cases hr
     exact A7 (AF eh AH) (AM AG v_d) (Av hwf) h
   refine AY eh ?_
   refine Ag (R := []) rfl rfl (Ab (e_t (Ai rfl (Ai rfl (Ad rfl (Ac rfl (em rfl h4)))))) (Aa ?_))
   refine AY (em rfl eh) ?_
   obtain ⟨v16, hc_v16, hr⟩ := bind_some hr
   refine F1 (Ay (e_t eh) AG (Ay e_c AG AR)) (Cb (e_t eh) (by exact rfl) (Cb e_c (by exact rfl) FC)) (fun st2 => Ou n v2 (98 : Int) hc_v16 ⟨rfl, rfl⟩) ?_
   refine AY (Ac rfl eh) ?_
   refine Ag (R := []) rfl rfl (CS (e_t eh) (Aa ?_))
   refine AY (Ac rfl (em rfl eh)) ?_
   refine Ag (R := []) rfl rfl (Ab (e_t eh) (Aa ?_))
   refine CH eh hr (fun hr => ?_) (fun hr => ?_)
   rotate_left
   · refine Az eh (Az (em rfl eh) (Az (Ac rfl eh) (Az (Ac rfl (em rfl eh)) (AY (Ak rfl (em rfl eh)) ?_))))
     refine Ag (R := []) rfl rfl (Ao (e_t (Ad rfl eh)) e_c (Aa ?_))
     refine Ag (R := []) rfl rfl (Ao (e_t (Ak rfl (Ac rfl eh))) (e_t eh) (Aa ?_))
     refine Ag (R := []) rfl rfl (Ab (e_t eh) (Aa ?_))
     refine AY eh ?_
     refine Ag (R := []) rfl rfl (Ab (e_t (Ai rfl (Ai rfl (Ai rfl (Ac rfl (em rfl h4)))))) (Aa ?_))
     refine AY (em rfl eh) ?_
     obtain ⟨v18, hc_v18, hr⟩ := bind_some hr
     refine F1 (Ay (e_t eh) AG (Ay e_c AG AR)) (Cb (e_t eh) (by exact rfl) (Cb e_c (by exact rfl) FC)) (fun st2 => Ou n v2 (101 : Int) hc_v18 ⟨rfl, rfl⟩) ?_
     refine AY (Ac rfl eh) ?_
     refine Ag (R := []) rfl rfl (CS (e_t eh) (Aa ?_))
     refine AY (Ac rfl (em rfl eh)) ?_
     refine Ag (R := []) rfl rfl (Ab (e_t eh) (Aa ?_))
     refine CH eh hr (fun hr => ?_) (fun hr => ?_)
     rotate_left
     · refine Az eh (Az (em rfl eh) (Az (Ac rfl eh) (Az (Ac rfl (em rfl eh)) (AY (Ak rfl (em rfl eh)) ?_))))
       refine Ag (R := []) rfl rfl (Ao (e_t (Ad rfl eh)) e_c (Aa ?_))
       refine Ag (R := []) rfl rfl (Ao (e_t (Ak rfl (Ac rfl eh))) (e_t eh) (Aa ?_))
       refine BC ?_
       refine ⟨by simp [BV, okPairs, BS, FE], ?_⟩
       refine Ae ?_
       refine EP (e_t eh) ?_
       refine AN (Ae ?_)
       exact ⟨hr, (Ai rfl (Ai rfl (Ai rfl (Ak rfl (Ad rfl (Ac rfl h1)))))), rfl⟩
     refine AY eh ?_
     refine Ag (R := []) rfl rfl (AB (e_t (Ai rfl (Ai rfl (Ai rfl (Ad rfl (Ad rfl h1)))))) (by exact rfl) (Aa ?_))
     refine AY (em rfl eh) ?_
     refine Ag rfl (Bz (e_t eh)) (Ap (e_t eh) ((Am rfl 0).trans rfl) (by exact rfl) (Aa ?_))
     refine AY (Ac rfl eh) ?_
     refine Ag rfl (JW (e_t eh)) (Bh (row := TS.row) (AL (e_t eh) Bq) (Aa ?_))
     refine AY (Ac rfl (em rfl eh)) ?_
     refine Ag (R := []) rfl rfl (Ar (e_t eh) e_c (C8 (Aa ?_)))
     refine AY (Ak rfl (em rfl eh)) ?_
     refine Ag (R := []) rfl rfl (An (e_t (Ad rfl eh)) (e_t eh) (Aa ?_))
     refine Ag (R := []) rfl rfl (Ao (e_t (Ak rfl (Ac rfl eh))) (e_t eh) (Aa ?_))
     refine BC ?_
     refine ⟨by simp [BV, okPairs, BS, FE], ?_⟩
     refine Ae ?_
     refine AC (e_t eh) hr (fun hr => ?_) (fun hr => ?_)
     rotate_left
     · refine AN (Ae ?_)
       exact ⟨hr, (Ai rfl (Ai rfl (Ai rfl (Ak rfl (Ad rfl (Ac rfl h1)))))), rfl⟩
     refine Al (Af ?_)
     unfold Df
     refine Ab e_c (Aa (Ae (AI (AA ?_))))
     cases hr
     exact A7 (AF eh AH) (AM AG v_d) (Av hwf) h
   refine AY eh ?_
   refine Ag (R := []) rfl rfl (AB (e_t (Ai rfl (Ai rfl (Ak rfl (Ad rfl h1))))) (by exact rfl) (Aa ?_))
   refine AY (em rfl eh) ?_
   refine Ag rfl (Bz (e_t eh)) (Ap (e_t eh) ((Am rfl 0).trans rfl) (by exact rfl) (Aa ?_))
   refine AY (Ac rfl eh) ?_
   refine Ag rfl (JW (e_t eh)) (Bh (row := TS.row) (AL (e_t eh) Bq) (Aa ?_))
   refine AY (Ac rfl (em rfl eh)) ?_
   refine Ag (R := []) rfl rfl (Ar (e_t eh) e_c (C8 (Aa ?_)))
   refine AY (Ak rfl (em rfl eh)) ?_
   refine Ag (R := []) rfl rfl (An (e_t (Ad rfl eh)) (e_t eh) (Aa ?_))
   refine Ag (R := []) rfl rfl (Ao (e_t (Ak rfl (Ac rfl eh))) (e_t eh) (Aa ?_))
   refine Ag (R := []) rfl rfl (Ab (e_t eh) (Aa ?_))
   refine CH eh hr (fun hr => ?_) (fun hr => ?_)
   · refine Az eh (Az (em rfl eh) (Az (Ac rfl eh) (Az (Ac rfl (em rfl eh)) ?_)))
     refine A2 eh ?_
     refine A2 (em rfl eh) ?_
     refine A2 (Ac rfl eh) ?_
     refine A2 (Ac rfl (em rfl eh)) ?_
     refine Az (Ad rfl (Ad rfl eh)) ?_
     refine Ag (R := []) rfl rfl (An (e_t (Ak rfl (em rfl eh))) e_c (Aa ?_))
     refine BC ?_
     refine ⟨by simp [BV, okPairs, BS, FE], ?_⟩
     refine Ae ?_
     refine Dz (e_t eh) ?_
     refine Al (Af ?_)
     unfold Df
     refine Ab e_c (Aa (Ae (AI (AA ?_))))
     cases hr
     exact A7 (AF eh AH) (AM AG v_d) (Av hwf) h
   refine AY eh ?_
   refine Ag (R := []) rfl rfl (Ab (e_t (Ai rfl (Ai rfl (Ai rfl (Ad rfl h4))))) (Aa ?_))
   refine AY (em rfl eh) ?_
   obtain ⟨v17, hc_v17, hr⟩ := bind_some hr
   refine F1 (Ay (e_t eh) AG (Ay e_c AG AR)) (Cb (e_t eh) (by exact rfl) (Cb e_c (by exact rfl) FC)) (fun st2 => Ou n v2 (101 : Int) hc_v17 ⟨rfl, rfl⟩) ?_
   refine AY (Ac rfl eh) ?_
   refine Ag (R := []) rfl rfl (CS (e_t eh) (Aa ?_))
   refine AY (Ac rfl (em rfl eh)) ?_
   refine Ag (R := []) rfl rfl (Ab (e_t eh) (Aa ?_))
   refine CH eh hr (fun hr => ?_) (fun hr => ?_)
   rotate_left
   · refine Az eh (Az (em rfl eh) (Az (Ac rfl eh) (Az (Ac rfl (em rfl eh)) (AY (Ak rfl (em rfl eh)) ?_))))
     refine Ag (R := []) rfl rfl (Ao (e_t (Ad rfl eh)) e_c (Aa ?_))
     refine Ag (R := []) rfl rfl (Ao (e_t (Ak rfl (Ac rfl eh))) (e_t eh) (Aa ?_))
     refine BC ?_
     refine ⟨by simp [BV, okPairs, BS, FE], ?_⟩
     refine Ae ?_
     refine EP (e_t eh) ?_
     refine AN (Ae ?_)
     exact ⟨hr, (Ai rfl (Ai rfl (Ai rfl (Ak rfl (Ad rfl (Ac rfl (em rfl h1))))))), rfl⟩
   refine AY eh ?_
   refine Ag (R := []) rfl rfl (AB (e_t (Ai rfl (Ai rfl (Ai rfl (Ak rfl (em rfl h1)))))) (by exact rfl) (Aa ?_))
   refine AY (em rfl eh) ?_
   refine Ag rfl (Bz (e_t eh)) (Ap (e_t eh) ((Am rfl 0).trans rfl) (by exact rfl) (Aa ?_))
   refine AY (Ac rfl eh) ?_
   refine Ag rfl (JW (e_t eh)) (Bh (row := TS.row) (AL (e_t eh) Bq) (Aa ?_))
   refine AY (Ac rfl (em rfl eh)) ?_
   refine Ag (R := []) rfl rfl (Ar (e_t eh) e_c (C8 (Aa ?_)))
   refine AY (Ak rfl (em rfl eh)) ?_
   refine Ag (R := []) rfl rfl (An (e_t (Ad rfl eh)) (e_t eh) (Aa ?_))
   refine Ag (R := []) rfl rfl (Ao (e_t (Ak rfl (Ac rfl eh))) (e_t eh) (Aa ?_))
   refine BC ?_
   refine ⟨by simp [BV, okPairs, BS, FE], ?_⟩
   refine Ae ?_
   refine AC (e_t eh) hr (fun hr => ?_) (fun hr => ?_)
   rotate_left
   · refine AN (Ae ?_)
     exact ⟨hr, (Ai rfl (Ai rfl (Ai rfl (Ak rfl (Ad rfl (Ac rfl (em rfl h1))))))), rfl⟩
   refine Al (Af ?_)
   unfold Df
   refine Ab e_c (Aa (Ae (AI (AA ?_))))
   cases hr
   exact A7 (AF eh AH) (AM AG v_d) (Av hwf) h
 refine AY eh ?_
 refine Ag (R := []) rfl rfl (AB (e_t (Ai rfl (Ad rfl (em rfl h1)))) (by exact rfl) (Aa ?_))
 refine AY (em rfl eh) ?_
 refine Ag rfl (Bz (e_t eh)) (Ap (e_t eh) ((Am rfl 0).trans rfl) (by exact rfl) (Aa ?_))
 refine AY (Ac rfl eh) ?_
 refine Ag (R := []) rfl rfl (Ar (e_t eh) e_c (Sf (Aa ?_)))
 refine AY (Ad rfl (Ad rfl eh)) ?_
 refine Ag (R := []) rfl rfl (An (e_t (Ac rfl (em rfl eh))) (e_t eh) (Aa ?_))
 refine Ag (R := []) rfl rfl (Ao (e_t (Ak rfl (em rfl eh))) (e_t eh) (Aa ?_))
 refine Ag (R := []) rfl rfl (Ab (e_t eh) (Aa ?_))
 refine CH eh hr (fun hr => ?_) (fun hr => ?_)
 · refine Az eh (Az (em rfl eh) (Az (Ac rfl eh) ?_))
   refine Ag (R := []) rfl rfl (An (e_t (Ac rfl (em rfl eh))) e_c (Aa ?_))
   refine Ag (R := []) rfl rfl (Ab (e_t eh) (Aa ?_))
   refine Az eh (Az (em rfl eh) (Az (Ac rfl eh) ?_))
   refine Ag (R := []) rfl rfl (An (e_t (Ac rfl (em rfl eh))) e_c (Aa ?_))
   refine Ag (R := []) rfl rfl (Ab (e_t eh) (Aa ?_))
   refine Az eh (Az (em rfl eh) (Az (Ac rfl eh) (Az (Ac rfl (em rfl eh)) ?_)))
   refine A2 eh ?_
   refine A2 (em rfl eh) ?_
   refine A2 (Ac rfl eh) ?_
   refine A2 (Ac rfl (em rfl eh)) ?_
   refine Az (Ad rfl (Ad rfl eh)) ?_
   refine Ag (R := []) rfl rfl (An (e_t (Ak rfl (em rfl eh))) e_c (Aa ?_))
   refine Ag (R := []) rfl rfl (Ab (e_t eh) (Aa ?_))
   refine Az eh (Az (em rfl eh) (Az (Ac rfl eh) (Az (Ac rfl (em rfl eh)) ?_)))
   refine A2 eh ?_
   refine A2 (em rfl eh) ?_
   refine A2 (Ac rfl eh) ?_
   refine A2 (Ac rfl (em rfl eh)) ?_
   refine Az (Ad rfl (Ad rfl eh)) ?_
   refine Ag (R := []) rfl rfl (An (e_t (Ak rfl (em rfl eh))) e_c (Aa ?_))
   refine BC ?_
   refine ⟨by simp [BV, okPairs, BS, FE], ?_⟩
   refine Ae ?_
   refine Dz (e_t eh) ?_
   refine Al (Af ?_)
   unfold Df
   refine Ab e_c (Aa (Ae (AI (AA ?_))))
   cases hr
   exact A7 (AF eh AH) (AM AG v_d) (Av hwf) h
 refine AY eh ?_
 refine Ag (R := []) rfl rfl (AB (e_t (Ai rfl (Ak rfl (Ad rfl h1)))) (by exact rfl) (Aa ?_))
 refine AY (em rfl eh) ?_
 refine Ag rfl (Bz (e_t eh)) (Ap (e_t eh) ((Am rfl 0).trans rfl) (by exact rfl) (Aa ?_))
 refine AY (Ac rfl eh) ?_
 refine Ag (R := []) rfl rfl (Ar (e_t eh) e_c (CL (Aa ?_)))
 refine Ag (R := []) rfl rfl (Ao (e_t (Ac rfl (em rfl eh))) (e_t eh) (Aa ?_))
 refine Ag (R := []) rfl rfl (Ab (e_t eh) (Aa ?_))
 refine CH eh hr (fun hr => ?_) (fun hr => ?_)
 · refine Az eh (Az (em rfl eh) (Az (Ac rfl eh) ?_))
   refine Ag (R := []) rfl rfl (An (e_t (Ac rfl (em rfl eh))) e_c (Aa ?_))
   refine Ag (R := []) rfl rfl (Ab (e_t eh) (Aa ?_))
   refine Az eh (Az (em rfl eh) (Az (Ac rfl eh) (Az (Ac rfl (em rfl eh)) ?_)))
   refine A2 eh ?_
   refine A2 (em rfl eh) ?_
   refine A2 (Ac rfl eh) ?_
   refine A2 (Ac rfl (em rfl eh)) ?_
   refine Az (Ad rfl (Ad rfl eh)) ?_
   refine Ag (R := []) rfl rfl (An (e_t (Ak rfl (em rfl eh))) e_c (Aa ?_))
   refine Ag (R := []) rfl rfl (Ab (e_t eh) (Aa ?_))
   refine Az eh (Az (em rfl eh) (Az (Ac rfl eh) (Az (Ac rfl (em rfl eh)) ?_)))
   refine A2 eh ?_
   refine A2 (em rfl eh) ?_
   refine A2 (Ac rfl eh) ?_
   refine A2 (Ac rfl (em rfl eh)) ?_
   refine Az (Ad rfl (Ad rfl eh)) ?_
   refine Ag (R := []) rfl rfl (An (e_t (Ak rfl (em rfl eh))) e_c (Aa ?_))
   refine BC ?_
   refine ⟨by simp [BV, okPairs, BS, FE], ?_⟩
   refine Ae ?_
   refine Dz (e_t eh) ?_
   refine Al (Af ?_)
   unfold Df
   refine Ab e_c (Aa (Ae (AI (AA ?_))))
   cases hr
   exact A7 (AF eh AH) (AM AG v_d) (Av hwf) h
 refine AY eh ?_
 refine Ag (R := []) rfl rfl (AB (e_t (Ai rfl (Ai rfl (Ac rfl h1)))) (by exact rfl) (Aa ?_))
 refine AY (em rfl eh) ?_
 refine Ag rfl (Bz (e_t eh)) (Ap (e_t eh) ((Am rfl 0).trans rfl) (by exact rfl) (Aa ?_))
 refine AY (Ac rfl eh) ?_
 refine Ag (R := []) rfl rfl (Ar (e_t eh) e_c (C8 (Aa ?_)))
 refine Ag (R := []) rfl rfl (Ao (e_t (Ac rfl (em rfl eh))) (e_t eh) (Aa ?_))
 refine Ag (R := []) rfl rfl (Ab (e_t eh) (Aa ?_))
 refine CH eh hr (fun hr => ?_) (fun hr => ?_)
 · refine Az eh (Az (em rfl eh) (Az (Ac rfl eh) (Az (Ac rfl (em rfl eh)) ?_)))
   refine A2 eh ?_
   refine A2 (em rfl eh) ?_
   refine A2 (Ac rfl eh) ?_
   refine A2 (Ac rfl (em rfl eh)) ?_
   refine Az (Ad rfl (Ad rfl eh)) ?_
   refine Ag (R := []) rfl rfl (An (e_t (Ak rfl (em rfl eh))) e_c (Aa ?_))
   refine Ag (R := []) rfl rfl (Ab (e_t eh) (Aa ?_))
   refine Az eh (Az (em rfl eh) (Az (Ac rfl eh) (Az (Ac rfl (em rfl eh)) ?_)))
   refine A2 eh ?_
   refine A2 (em rfl eh) ?_
   refine A2 (Ac rfl eh) ?_
   refine A2 (Ac rfl (em rfl eh)) ?_
   refine Az (Ad rfl (Ad rfl eh)) ?_
   refine Ag (R := []) rfl rfl (An (e_t (Ak rfl (em rfl eh))) e_c (Aa ?_))
   refine BC ?_
   refine ⟨by simp [BV, okPairs, BS, FE], ?_⟩
   refine Ae ?_
   refine Dz (e_t eh) ?_
   refine Al (Af ?_)
   unfold Df
   refine Ab e_c (Aa (Ae (AI (AA ?_))))
   cases hr
   exact A7 (AF eh AH) (AM AG v_d) (Av hwf) h
 refine AY eh ?_
 refine Ag (R := []) rfl rfl (Ab (e_t (Ai rfl (Ai rfl (Ad rfl (Ad rfl h4))))) (Aa ?_))
 refine AY (em rfl eh) ?_
 obtain ⟨v13, hc_v13, hr⟩ := bind_some hr
 refine F1 (Ay (e_t eh) AG (Ay e_c AG AR)) (Cb (e_t eh) (by exact rfl) (Cb e_c (by exact rfl) FC)) (fun st2 => Ou n v2 (98 : Int) hc_v13 ⟨rfl, rfl⟩) ?_
 refine AY (Ac rfl eh) ?_
 refine Ag (R := []) rfl rfl (CS (e_t eh) (Aa ?_))
 refine AY (Ac rfl (em rfl eh)) ?_
 refine Ag (R := []) rfl rfl (Ab (e_t eh) (Aa ?_))
 refine CH eh hr (fun hr => ?_) (fun hr => ?_)
 rotate_left
 · refine Az eh (Az (em rfl eh) (Az (Ac rfl eh) (Az (Ac rfl (em rfl eh)) (AY (Ak rfl (em rfl eh)) ?_))))
   refine Ag (R := []) rfl rfl (Ao (e_t (Ad rfl eh)) e_c (Aa ?_))
   refine Ag (R := []) rfl rfl (Ao (e_t (Ak rfl (Ac rfl eh))) (e_t eh) (Aa ?_))
   refine Ag (R := []) rfl rfl (Ab (e_t eh) (Aa ?_))
   refine AY eh ?_
   refine Ag (R := []) rfl rfl (Ab (e_t (Ai rfl (Ai rfl (Ai rfl (Ad rfl h4))))) (Aa ?_))
   refine AY (em rfl eh) ?_
   obtain ⟨v15, hc_v15, hr⟩ := bind_some hr
   refine F1 (Ay (e_t eh) AG (Ay e_c AG AR)) (Cb (e_t eh) (by exact rfl) (Cb e_c (by exact rfl) FC)) (fun st2 => Ou n v2 (101 : Int) hc_v15 ⟨rfl, rfl⟩) ?_
   refine AY (Ac rfl eh) ?_
   refine Ag (R := []) rfl rfl (CS (e_t eh) (Aa ?_))
   refine AY (Ac rfl (em rfl eh)) ?_
   refine Ag (R := []) rfl rfl (Ab (e_t eh) (Aa ?_))
   refine CH eh hr (fun hr => ?_) (fun hr => ?_)
   rotate_left
   · refine Az eh (Az (em rfl eh) (Az (Ac rfl eh) (Az (Ac rfl (em rfl eh)) (AY (Ak rfl (em rfl eh)) ?_))))
     refine Ag (R := []) rfl rfl (Ao (e_t (Ad rfl eh)) e_c (Aa ?_))
     refine Ag (R := []) rfl rfl (Ao (e_t (Ak rfl (Ac rfl eh))) (e_t eh) (Aa ?_))
     refine BC ?_
     refine ⟨by simp [BV, okPairs, BS, FE], ?_⟩
     refine Ae ?_
     refine EP (e_t eh) ?_
     refine AN (Ae ?_)
     exact ⟨hr, (Ai rfl (Ai rfl (Ai rfl (Ak rfl (Ad rfl (Ac rfl (em rfl h1))))))), rfl⟩
   refine AY eh ?_
   refine Ag (R := []) rfl rfl (AB (e_t (Ai rfl (Ai rfl (Ai rfl (Ak rfl (em rfl h1)))))) (by exact rfl) (Aa ?_))
   refine AY (em rfl eh) ?_
   refine Ag rfl (Bz (e_t eh)) (Ap (e_t eh) ((Am rfl 0).trans rfl) (by exact rfl) (Aa ?_))
   refine AY (Ac rfl eh) ?_
   refine Ag rfl (JW (e_t eh)) (Bh (row := TS.row) (AL (e_t eh) Bq) (Aa ?_))
   refine AY (Ac rfl (em rfl eh)) ?_
   refine Ag (R := []) rfl rfl (Ar (e_t eh) e_c (C8 (Aa ?_)))
   refine AY (Ak rfl (em rfl eh)) ?_
   refine Ag (R := []) rfl rfl (An (e_t (Ad rfl eh)) (e_t eh) (Aa ?_))
   refine Ag (R := []) rfl rfl (Ao (e_t (Ak rfl (Ac rfl eh))) (e_t eh) (Aa ?_))
   refine BC ?_
   refine ⟨by simp [BV, okPairs, BS, FE], ?_⟩
   refine Ae ?_
   refine AC (e_t eh) hr (fun hr => ?_) (fun hr => ?_)
   rotate_left
   · refine AN (Ae ?_)
     exact ⟨hr, (Ai rfl (Ai rfl (Ai rfl (Ak rfl (Ad rfl (Ac rfl (em rfl h1))))))), rfl⟩
   refine Al (Af ?_)
   unfold Df
   refine Ab e_c (Aa (Ae (AI (AA ?_))))
   cases hr
   exact A7 (AF eh AH) (AM AG v_d) (Av hwf) h
 refine AY eh ?_
 refine Ag (R := []) rfl rfl (AB (e_t (Ai rfl (Ai rfl (Ak rfl (Ad rfl (em rfl h1)))))) (by exact rfl) (Aa ?_))
 refine AY (em rfl eh) ?_
 refine Ag rfl (Bz (e_t eh)) (Ap (e_t eh) ((Am rfl 0).trans rfl) (by exact rfl) (Aa ?_))
 refine AY (Ac rfl eh) ?_
 refine Ag rfl (JW (e_t eh)) (Bh (row := TS.row) (AL (e_t eh) Bq) (Aa ?_))
 refine AY (Ac rfl (em rfl eh)) ?_
 refine Ag (R := []) rfl rfl (Ar (e_t eh) e_c (C8 (Aa ?_)))
 refine AY (Ak rfl (em rfl eh)) ?_
 refine Ag (R := []) rfl rfl (An (e_t (Ad rfl eh)) (e_t eh) (Aa ?_))
 refine Ag (R := []) rfl rfl (Ao (e_t (Ak rfl (Ac rfl eh))) (e_t eh) (Aa ?_))
 refine Ag (R := []) rfl rfl (Ab (e_t eh) (Aa ?_))
 refine CH eh hr (fun hr => ?_) (fun hr => ?_)
 · refine Az eh (Az (em rfl eh) (Az (Ac rfl eh) (Az (Ac rfl (em rfl eh)) ?_)))
   refine A2 eh ?_
   refine A2 (em rfl eh) ?_
   refine A2 (Ac rfl eh) ?_
   refine A2 (Ac rfl (em rfl eh)) ?_
   refine Az (Ad rfl (Ad rfl eh)) ?_
   refine Ag (R := []) rfl rfl (An (e_t (Ak rfl (em rfl eh))) e_c (Aa ?_))
   refine BC ?_
   refine ⟨by simp [BV, okPairs, BS, FE], ?_⟩
   refine Ae ?_
   refine Dz (e_t eh) ?_
   refine Al (Af ?_)
   unfold Df
   refine Ab e_c (Aa (Ae (AI (AA ?_))))
   cases hr
   exact A7 (AF eh AH) (AM AG v_d) (Av hwf) h
 refine AY eh ?_
 refine Ag (R := []) rfl rfl (Ab (e_t (Ai rfl (Ai rfl (Ai rfl (Ad rfl (em rfl h4)))))) (Aa ?_))
 refine AY (em rfl eh) ?_
 obtain ⟨v14, hc_v14, hr⟩ := bind_some hr
 refine F1 (Ay (e_t eh) AG (Ay e_c AG AR)) (Cb (e_t eh) (by exact rfl) (Cb e_c (by exact rfl) FC)) (fun st2 => Ou n v2 (101 : Int) hc_v14 ⟨rfl, rfl⟩) ?_
 refine AY (Ac rfl eh) ?_
 refine Ag (R := []) rfl rfl (CS (e_t eh) (Aa ?_))
 refine AY (Ac rfl (em rfl eh)) ?_
 refine Ag (R := []) rfl rfl (Ab (e_t eh) (Aa ?_))
 refine CH eh hr (fun hr => ?_) (fun hr => ?_)
 rotate_left
 · refine Az eh (Az (em rfl eh) (Az (Ac rfl eh) (Az (Ac rfl (em rfl eh)) (AY (Ak rfl (em rfl eh)) ?_))))
   refine Ag (R := []) rfl rfl (Ao (e_t (Ad rfl eh)) e_c (Aa ?_))
   refine Ag (R := []) rfl rfl (Ao (e_t (Ak rfl (Ac rfl eh))) (e_t eh) (Aa ?_))
   refine BC ?_
   refine ⟨by simp [BV, okPairs, BS, FE], ?_⟩
   refine Ae ?_
   refine EP (e_t eh) ?_
   refine AN (Ae ?_)
   exact ⟨hr, (Ai rfl (Ai rfl (Ai rfl (Ak rfl (Ad rfl (Ad rfl h1)))))), rfl⟩
 refine AY eh ?_
 refine Ag (R := []) rfl rfl (AB (e_t (Ai rfl (Ai rfl (Ai rfl (Ak rfl (Ac rfl h1)))))) (by exact rfl) (Aa ?_))
 refine AY (em rfl eh) ?_
 refine Ag rfl (Bz (e_t eh)) (Ap (e_t eh) ((Am rfl 0).trans rfl) (by exact rfl) (Aa ?_))
 refine AY (Ac rfl eh) ?_
 refine Ag rfl (JW (e_t eh)) (Bh (row := TS.row) (AL (e_t eh) Bq) (Aa ?_))
 refine AY (Ac rfl (em rfl eh)) ?_
 refine Ag (R := []) rfl rfl (Ar (e_t eh) e_c (C8 (Aa ?_)))
 refine AY (Ak rfl (em rfl eh)) ?_
 refine Ag (R := []) rfl rfl (An (e_t (Ad rfl eh)) (e_t eh) (Aa ?_))
 refine Ag (R := []) rfl rfl (Ao (e_t (Ak rfl (Ac rfl eh))) (e_t eh) (Aa ?_))
 refine BC ?_
 refine ⟨by simp [BV, okPairs, BS, FE], ?_⟩
 refine Ae ?_
 refine AC (e_t eh) hr (fun hr => ?_) (fun hr => ?_)
 rotate_left
 · refine AN (Ae ?_)
   exact ⟨hr, (Ai rfl (Ai rfl (Ai rfl (Ak rfl (Ad rfl (Ad rfl h1)))))), rfl⟩
 refine Al (Af ?_)
 unfold Df
 refine Ab e_c (Aa (Ae (AI (AA ?_))))
 cases hr
 exact A7 (AF eh AH) (AM AG v_d) (Av hwf) h
def FZ (p0 : (List TS)) (s_RBuilt : TS → Option Bool) (q0 : Int → Option Bool) (v1 : Int) : Option Bool :=
 (bif (decide (v1 < (p0.length : Int))) then ((Dh p0 v1).bind fun v2 => ((s_RBuilt v2).bind fun v3 => (bif (!v3) then some false else q0 (IntKind.wrap .i64 (v1 + (1 : Int)))))) else some true)
def B7 (p0 : (List TS)) (s_RBuilt : TS → Option Bool) : Nat → Int → Option Bool
 | 0, _ => none
 | m + 1, v1 => FZ p0 s_RBuilt (B7 p0 s_RBuilt m) v1
def HF (s_RBuilt : TS → Option Bool) (s_RBlocks : (List TS) → Option Bool) (n : Nat) (p0 : (List TS)) : Option Bool :=
 (B7 p0 s_RBuilt n (0 : Int))
set_option maxRecDepth 100000 in
set_option maxHeartbeats 4000000 in
theorem Av0 (s_RBuilt : TS → Option Bool) (s_RBlocks : (List TS) → Option Bool) (n : Nat) (p0 : (List TS)) (H_s_RBuilt : ∀ (p0 : TS) {r : Bool}, s_RBuilt p0 = some r → ∀ {st : List Content} {K : PV → List Content → Prop} (h : K (.d (.bool r)) st), Aw PR NE [(.agg [(.d (.int .i64 p0.Op)), (.d (.str p0.Name)), (.d (.str p0.Src)), (.d (.int .i64 p0.N)), (.d (.sl (List.map rS p0.Cols))), (.d (.sl (List.map TE.row p0.Exprs))), (.d (.sl (List.map TS.row p0.Body))), (.d (.sl (List.map TS.row p0.Else)))])] st K) (H_s_RBlocks : ∀ (p0 : (List TS)) {r : Bool}, s_RBlocks p0 = some r → ∀ {st : List Content} {K : PV → List Content → Prop} (h : K (.d (.bool r)) st), Aw PR HQ [(.d (.sl (List.map TS.row p0)))] st K) {r : Bool} (hr : HF s_RBuilt s_RBlocks n p0 = some r) {K : PV → List Content → Prop} (h : K (.d (.bool r)) st) : Aw PR HQ [(.d (.sl (List.map TS.row p0)))] st K := by
 refine Aw.of AC0 (Nat.le_of_ble_eq_true rfl) fun hwf => ?_
 rw [Cm]
 refine AQ ?_
 unfold Ac4
 rw [HF] at hr
 refine Al (Af ?_)
 unfold SK
 refine Ab e_c (Aa (Ae (Al (Al (Af ?_)))))
 unfold UT
 refine Ab e_c (Aa (Ae ?_))
 refine AX ?_
 refine Ca (fun m f st' => ∃ (v1 : Int), B7 p0 s_RBuilt m v1 = some r ∧ f 0 = (.d (.sl (List.map TS.row p0))) ∧ f 3 = (.d (.int .i64 v1)) ∧ st' = st ++ []) n (Ghost.refl _) ⟨(0 : Int), hr, (Ac rfl eh), eh, rfl⟩ ?_
 rintro m f st' ⟨v1, hr, h0, h3, rfl⟩
 cases m with
 | zero => cases hr
 | succ m_0 =>
   rw [B7] at hr
   generalize hrec_0 : B7 p0 s_RBuilt m_0 = q0 at hr
   rw [FZ] at hr
   unfold T3
   refine Al (Al (Af ?_))
   unfold SJ
   refine Ab (e_t h3) (Ab (e_t (em rfl h0)) ?_)
   refine Bh (row := TS.row) (AL (e_t eh) Bq) ?_
   refine Ar (e_t (Ac rfl eh)) (e_t eh) (CL ?_)
   refine Aa (Ae ?_)
   refine AC (e_t eh) hr (fun hr => ?_) (fun hr => ?_)
   rotate_left
   · refine CP ?_
     refine A0 ?_
     refine A0 ?_
     refine Ea ?_
     refine Ae (Al (Af ?_))
     unfold TI
     refine Ab e_c (Aa (Ae (AI ?_)))
     cases hr
     exact A7 (AF eh AH) (AM AG v_d) (Av hwf) h
   refine AN (Ae (Al ?_))
   refine AX ?_
   refine Al (Af ?_)
   unfold Uw
   refine Ab (e_t (Ad rfl h0)) (Ab (e_t (Ad rfl (em rfl h3))) ?_)
   refine Bt (row := TS.row) (AL (e_t (em rfl eh)) Bq) (e_t eh) hr TS.row_eq (fun _ => rfl) (fun v2 hr => ?_)
   refine DH (e_t eh) (Nat.le_of_ble_eq_true rfl) (by exact rfl) ?_
   obtain ⟨v3, hc_v3, hr⟩ := bind_some hr
   refine AP (Ay (e_t eh) (BP (Aq f_d (Aq f_d (Aq f_d (Aq f_d (Aq f_d (Aq f_d (Aq f_d (Aq f_d Cw))))))))) AR) ?_
   refine H_s_RBuilt v2 hc_v3 ?_
   refine CS (e_t eh) (Aa (Ae ?_))
   refine AC (e_t eh) hr (fun hr => ?_) (fun hr => ?_)
   rotate_left
   · refine AN ?_
     refine BA ?_
     refine Ae (Af ?_)
     unfold U7
     refine Ab (e_t (Ak rfl (Ac rfl h3))) ?_
     refine Ar (e_t eh) e_c (BX ?_)
     refine Ab (e_t eh) (Aa (Ae ?_))
     exact ⟨m_0, _, Nat.lt_succ_self m_0, Ghost.refl _, (IntKind.wrap .i64 (v1 + (1 : Int))), (by rw [hrec_0]; exact hr), (Ak rfl (Ad rfl (em rfl h0))), eh, rfl⟩
   refine Al (Af ?_)
   unfold Vi
   refine Ab e_c (Aa (Ae (AI ?_)))
   refine BE ?_
   refine AA (AA ?_)
   refine BE ?_
   refine AA ?_
   cases hr
   exact A7 (AF eh AH) (AM AG v_d) (Av hwf) h
mutual
def Dp : Nat → TS → Option Bool
 | 0, _ => none
 | n + 1, p0 => IA (Dp n) (B3 n) n p0
def B3 : Nat → (List TS) → Option Bool
 | 0, _ => none
 | n + 1, p0 => HF (Dp n) (B3 n) n p0
end
theorem NA : ∀ n : Nat, (∀ (p0 : TS) {r : Bool}, Dp n p0 = some r → ∀ {st : List Content} {K : PV → List Content → Prop} (h : K (.d (.bool r)) st), Aw PR NE [(.agg [(.d (.int .i64 p0.Op)), (.d (.str p0.Name)), (.d (.str p0.Src)), (.d (.int .i64 p0.N)), (.d (.sl (List.map rS p0.Cols))), (.d (.sl (List.map TE.row p0.Exprs))), (.d (.sl (List.map TS.row p0.Body))), (.d (.sl (List.map TS.row p0.Else)))])] st K) ∧ (∀ (p0 : (List TS)) {r : Bool}, B3 n p0 = some r → ∀ {st : List Content} {K : PV → List Content → Prop} (h : K (.d (.bool r)) st), Aw PR HQ [(.d (.sl (List.map TS.row p0)))] st K)
 | 0 => ⟨fun _ _ hr => (by rw [Dp] at hr; cases hr), fun _ _ hr => (by rw [B3] at hr; cases hr)⟩
 | n + 1 => ⟨fun p0 _ hr _ _ h => AD6 (Dp n) (B3 n) n p0 (NA n).1 (NA n).2 (by rw [Dp] at hr; exact hr) h, fun p0 _ hr _ _ h => Av0 (Dp n) (B3 n) n p0 (NA n).1 (NA n).2 (by rw [B3] at hr; exact hr) h⟩
theorem AC1 (n : Nat) (p0 : (List TS)) {r : Bool} (hr : B3 n p0 = some r) {K : PV → List Content → Prop} (h : K (.d (.bool r)) st) : Aw PR HQ [(.d (.sl (List.map TS.row p0)))] st K := (NA n).2 p0 hr h
end Go.Ax
