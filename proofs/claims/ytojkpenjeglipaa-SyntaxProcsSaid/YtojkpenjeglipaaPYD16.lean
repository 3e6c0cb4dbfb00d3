import Derived.Test.YtojkpenjeglipaaPYT
import Derived.Test.YtojkpenjeglipaaPCVX
import Derived.Test.YtojkpenjeglipaaPCPrim
import Derived.Test.YtojkpenjeglipaaPYD11
import Derived.Test.YtojkpenjeglipaaPYD14
import Derived.Test.YtojkpenjeglipaaPYD15
set_option linter.unusedVariables false
set_option linter.unusedSimpArgs false
namespace Go.Ax
attribute [local irreducible] BQ EX FK Bg CQ FI B8 Le Ii upd ev u0 Dw frz A9 EK mmD bnd B2 FD Dq CR G3 HS Hg cutV JT Cy
variable {st : List Content}
def GQ (p0 : TS) (s_RBlocks : (List TS) → Option Bool) : Option Bool :=
 ((s_RBlocks p0.Body).bind fun v30 => (bif v30 then ((s_RBlocks p0.Else).bind fun v31 => some v31) else some false))
def G8 (p0 : TS) (s_RBlocks : (List TS) → Option Bool) (n : Nat) (q0 : Int → Option Bool) (v27 : Int) : Option Bool :=
 (bif (decide (v27 < (p0.Exprs.length : Int))) then ((Dd p0.Exprs v27).bind fun v28 => ((BE n v28).bind fun v29 => (bif (!v29) then some false else q0 (IntKind.wrap .i64 (v27 + (1 : Int)))))) else (GQ p0 s_RBlocks))
def CB (p0 : TS) (s_RBlocks : (List TS) → Option Bool) (n : Nat) : Nat → Int → Option Bool
 | 0, _ => none
 | m + 1, v27 => G8 p0 s_RBlocks n (CB p0 s_RBlocks n m) v27
def Ft (p0 : TS) (s_RBlocks : (List TS) → Option Bool) (n : Nat) : Option Bool :=
 (CB p0 s_RBlocks n n (0 : Int))
def FX (p0 : TS) (s_RBlocks : (List TS) → Option Bool) (n : Nat) (v25 : Bool) (v26 : Bool) : Option Bool :=
 (bif v26 then some false else (bif (!v25) then (bif (!decide ((p0.Exprs.length : Int) = (IntKind.wrap .i64 ((1 : Int) + (p0.Cols.length : Int))))) then some false else (Ft p0 s_RBlocks n)) else (Ft p0 s_RBlocks n)))
def E6 (p0 : TS) (s_RBlocks : (List TS) → Option Bool) (n : Nat) (v25 : Bool) : Option Bool :=
 (bif v25 then (bif (decide ((p0.Exprs.length : Int) < (1 : Int))) then (FX p0 s_RBlocks n v25 true) else (FX p0 s_RBlocks n v25 (decide ((8 : Int) < (p0.Exprs.length : Int))))) else (FX p0 s_RBlocks n v25 false))
def FZ (p0 : TS) (s_RBlocks : (List TS) → Option Bool) (n : Nat) : Option Bool :=
 (bif (decide (p0.Op = (3 : Int))) then (E6 p0 s_RBlocks n true) else (bif (decide (p0.Op = (8 : Int))) then (E6 p0 s_RBlocks n true) else (E6 p0 s_RBlocks n (decide (p0.Op = (10 : Int))))))
def G5 (p0 : TS) (v19 : Int) (q1 : Int → Option Bool) (q2 : Int → Option Bool) (v22 : Int) : Option Bool :=
 (bif (decide (v22 < v19)) then ((Dd p0.Cols v22).bind fun v23 => ((Dd p0.Cols v19).bind fun v24 => (bif (decide (v23 = v24)) then some false else q2 (IntKind.wrap .i64 (v22 + (1 : Int)))))) else q1 (IntKind.wrap .i64 (v19 + (1 : Int))))
def Cr (p0 : TS) (v19 : Int) (q1 : Int → Option Bool) : Nat → Int → Option Bool
 | 0, _ => none
 | m + 1, v22 => G5 p0 v19 q1 (Cr p0 v19 q1 m) v22
def GX (p0 : TS) (s_RBlocks : (List TS) → Option Bool) (n : Nat) (q1 : Int → Option Bool) (v19 : Int) : Option Bool :=
 (bif (decide (v19 < (p0.Cols.length : Int))) then ((Dd p0.Cols v19).bind fun v20 => ((Du n v20).bind fun v21 => (bif (!v21) then some false else (Cr p0 v19 q1 n (0 : Int))))) else (FZ p0 s_RBlocks n))
def CA (p0 : TS) (s_RBlocks : (List TS) → Option Bool) (n : Nat) : Nat → Int → Option Bool
 | 0, _ => none
 | m + 1, v19 => GX p0 s_RBlocks n (CA p0 s_RBlocks n m) v19
def CF (p0 : TS) (s_RBlocks : (List TS) → Option Bool) (n : Nat) : Option Bool :=
 (CA p0 s_RBlocks n n (0 : Int))
def C1 (p0 : TS) (s_RBlocks : (List TS) → Option Bool) (n : Nat) (v2 : ByteArray) : Option Bool :=
 ((F8 n v2 (99 : Int)).bind fun v11 => (bif (!(v11 == (decide ((0 : Int) < (p0.Cols.length : Int))))) then some false else (bif (decide ((8 : Int) < (p0.Cols.length : Int))) then some false else ((F8 n v2 (78 : Int)).bind fun v12 => (bif (!v12) then (bif (!decide (p0.N = (0 : Int))) then some false else (bif (decide (p0.N < (0 : Int))) then some false else (bif (decide ((1000 : Int) < p0.N)) then some false else ((F8 n v2 (98 : Int)).bind fun v13 => (bif (!v13) then (bif (decide ((0 : Int) < (p0.Body.length : Int))) then some false else ((F8 n v2 (101 : Int)).bind fun v14 => (bif (!v14) then (bif (decide ((0 : Int) < (p0.Else.length : Int))) then some false else (CF p0 s_RBlocks n)) else (CF p0 s_RBlocks n)))) else ((F8 n v2 (101 : Int)).bind fun v15 => (bif (!v15) then (bif (decide ((0 : Int) < (p0.Else.length : Int))) then some false else (CF p0 s_RBlocks n)) else (CF p0 s_RBlocks n)))))))) else (bif (decide (p0.N < (0 : Int))) then some false else (bif (decide ((1000 : Int) < p0.N)) then some false else ((F8 n v2 (98 : Int)).bind fun v16 => (bif (!v16) then (bif (decide ((0 : Int) < (p0.Body.length : Int))) then some false else ((F8 n v2 (101 : Int)).bind fun v17 => (bif (!v17) then (bif (decide ((0 : Int) < (p0.Else.length : Int))) then some false else (CF p0 s_RBlocks n)) else (CF p0 s_RBlocks n)))) else ((F8 n v2 (101 : Int)).bind fun v18 => (bif (!v18) then (bif (decide ((0 : Int) < (p0.Else.length : Int))) then some false else (CF p0 s_RBlocks n)) else (CF p0 s_RBlocks n))))))))))))
def Fb (p0 : TS) (s_RBlocks : (List TS) → Option Bool) (n : Nat) (v1 : Bool) : Option Bool :=
 (bif v1 then some false else ((Dd ([(⟨#[]⟩ : ByteArray), (⟨#[110]⟩ : ByteArray), (⟨#[110]⟩ : ByteArray), (⟨#[115]⟩ : ByteArray), (⟨#[110, 115, 99]⟩ : ByteArray), (⟨#[110, 115]⟩ : ByteArray), (⟨#[110, 115, 78, 98]⟩ : ByteArray), (⟨#[98, 101]⟩ : ByteArray), (⟨#[115]⟩ : ByteArray), (⟨#[]⟩ : ByteArray), (⟨#[]⟩ : ByteArray)]) p0.Op).bind fun v2 => ((F8 n v2 (110 : Int)).bind fun v3 => (bif (!(v3 == (!decide (p0.Name = (⟨#[]⟩ : ByteArray))))) then some false else ((F8 n v2 (115 : Int)).bind fun v4 => (bif (!(v4 == (!decide (p0.Src = (⟨#[]⟩ : ByteArray))))) then some false else ((F8 n v2 (110 : Int)).bind fun v5 => (bif v5 then ((Du n p0.Name).bind fun v6 => (bif (!v6) then some false else ((F8 n v2 (115 : Int)).bind fun v7 => (bif v7 then ((Du n p0.Src).bind fun v8 => (bif (!v8) then some false else (C1 p0 s_RBlocks n v2))) else (C1 p0 s_RBlocks n v2))))) else ((F8 n v2 (115 : Int)).bind fun v9 => (bif v9 then ((Du n p0.Src).bind fun v10 => (bif (!v10) then some false else (C1 p0 s_RBlocks n v2))) else (C1 p0 s_RBlocks n v2)))))))))))
def IR (s_RBuilt : TS → Option Bool) (s_RBlocks : (List TS) → Option Bool) (n : Nat) (p0 : TS) : Option Bool :=
 (bif (decide (p0.Op < (1 : Int))) then (Fb p0 s_RBlocks n true) else (Fb p0 s_RBlocks n (decide ((10 : Int) < p0.Op))))
set_option maxRecDepth 100000 in
set_option maxHeartbeats 4000000 in
theorem AK2 (s_RBuilt : TS → Option Bool) (s_RBlocks : (List TS) → Option Bool) (n : Nat) (p0 : TS) (H_s_RBuilt : ∀ (p0 : TS) {r : Bool}, s_RBuilt p0 = some r → ∀ {st : List Content} {K : PV → List Content → Prop} (h : K (.d (.bool r)) st), Av PR NL [(.agg [(.d (.int .i64 p0.Op)), (.d (.str p0.Name)), (.d (.str p0.Src)), (.d (.int .i64 p0.N)), (.d (.sl (List.map rS p0.Cols))), (.d (.sl (List.map TE.row p0.Exprs))), (.d (.sl (List.map TS.row p0.Body))), (.d (.sl (List.map TS.row p0.Else)))])] st K) (H_s_RBlocks : ∀ (p0 : (List TS)) {r : Bool}, s_RBlocks p0 = some r → ∀ {st : List Content} {K : PV → List Content → Prop} (h : K (.d (.bool r)) st), Av PR Ic [(.d (.sl (List.map TS.row p0)))] st K) {r : Bool} (hr : IR s_RBuilt s_RBlocks n p0 = some r) {K : PV → List Content → Prop} (h : K (.d (.bool r)) st) : Av PR NL [(.agg [(.d (.int .i64 p0.Op)), (.d (.str p0.Name)), (.d (.str p0.Src)), (.d (.int .i64 p0.N)), (.d (.sl (List.map rS p0.Cols))), (.d (.sl (List.map TE.row p0.Exprs))), (.d (.sl (List.map TS.row p0.Body))), (.d (.sl (List.map TS.row p0.Else)))])] st K := by
 refine Av.of AL6 (Nat.le_of_ble_eq_true rfl) fun hwf => ?_
 rw [B5]
 refine AQ ?_
 unfold Au8
 rw [IR] at hr
 refine Al (Af ?_)
 unfold WX
 refine Gq (k := 0) rfl rfl (e_t eh) Bf (by exact rfl) ?_
 refine Ab e_c (Aa (Ae (Al ?_)))
 refine By (fun f st' => ∃ (v1 : Bool), Fb p0 s_RBlocks n v1 = some r ∧ f 1 = (.ptr (st.length + 0) 0) ∧ f 17 = (.d (.bool v1)) ∧ st' = st ++ [(.box [(.d (.int .i64 p0.Op)), (.d (.str p0.Name)), (.d (.str p0.Src)), (.d (.int .i64 p0.N)), (.d (.sl (List.map rS p0.Cols))), (.d (.sl (List.map TE.row p0.Exprs))), (.d (.sl (List.map TS.row p0.Body))), (.d (.sl (List.map TS.row p0.Else)))])]) ?_ ?_
 · refine Af ?_
   unfold WU
   refine AB (e_t (em rfl eh)) (by exact rfl) ?_
   refine Ap (e_t eh) ((Am rfl 0).trans rfl) (by exact rfl) ?_
   refine As (e_t eh) e_c (CM ?_)
   refine Ab (e_t eh) ?_
   refine Au eh hr (fun hr => ?_) (fun hr => ?_)
   · refine Ag eh (Ag (em rfl eh) (Ag (Ac rfl eh) (An (e_t (Ac rfl (em rfl eh))) e_c (Aa (Ae ?_)))))
     exact ⟨true, hr, (Ak rfl (Ac rfl eh)), eh, rfl⟩
   refine Ai eh ?_
   refine AB (e_t (Ad rfl (Ac rfl eh))) (by exact rfl) ?_
   refine Ai (em rfl eh) ?_
   refine Ap (e_t eh) ((Am rfl 0).trans rfl) (by exact rfl) ?_
   refine Ai (Ac rfl eh) ?_
   refine As (e_t eh) e_c (C8 ?_)
   refine Ao (e_t (Ac rfl (em rfl eh))) (e_t eh) (Aa (Ae ?_))
   exact ⟨(decide ((10 : Int) < p0.Op)), hr, (Ak rfl (Ac rfl eh)), eh, rfl⟩
 rintro f st' ⟨v1, hr, h1, h17, rfl⟩
 rw [Fb] at hr
 refine AC (e_t h17) hr (fun hr => ?_) (fun hr => ?_)
 · refine Al (Af ?_)
   unfold WT
   refine Ab e_c (Aa (Ae (AI (AA ?_))))
   cases hr
   exact A7 (AG eh AH) (AN AF v_d) (Ay hwf) h
 refine AO (Ae (Al (Af ?_)))
 unfold WI
 refine Db (rows := List.map rS [(⟨#[]⟩ : ByteArray), (⟨#[110]⟩ : ByteArray), (⟨#[110]⟩ : ByteArray), (⟨#[115]⟩ : ByteArray), (⟨#[110, 115, 99]⟩ : ByteArray), (⟨#[110, 115]⟩ : ByteArray), (⟨#[110, 115, 78, 98]⟩ : ByteArray), (⟨#[98, 101]⟩ : ByteArray), (⟨#[115]⟩ : ByteArray), (⟨#[]⟩ : ByteArray), (⟨#[]⟩ : ByteArray)]) ((AE e_c A0 (Aw f_d AL) rfl (AE e_c A0 (Aw f_d AL) rfl (AE e_c A0 (Aw f_d AL) rfl (AE e_c A0 (Aw f_d AL) rfl (AE e_c A0 (Aw f_d AL) rfl (AE e_c A0 (Aw f_d AL) rfl (AE e_c A0 (Aw f_d AL) rfl (AE e_c A0 (Aw f_d AL) rfl (AE e_c A0 (Aw f_d AL) rfl (AE e_c A0 (Aw f_d AL) rfl (AE e_c A0 (Aw f_d AL) rfl Eg)))))))))))) ?_
 refine Ab (e_t eh) (Aa (Ae (Al (Af ?_))))
 unfold XV
 refine Ab (e_t eh) ?_
 refine AB (e_t (Ac rfl (em rfl h1))) (by exact rfl) ?_
 refine Ap (e_t eh) ((Am rfl 0).trans rfl) (by exact rfl) ?_
 refine Br (row := rS) (AP (e_t (Ac rfl eh)) K1) (e_t eh) hr (fun _ => rfl) (fun _ => rfl) (fun v2 hr => ?_)
 refine BI (e_t eh) (by exact rfl) ?_
 refine Ab (e_t eh) (Aa (Ae ?_))
 refine By (fun f st' => C1 p0 s_RBlocks n v2 = some r ∧ f 1 = (.ptr (st.length + 0) 0) ∧ f 4 = (.d (.str v2)) ∧ st' = st ++ [(.box [(.d (.int .i64 p0.Op)), (.d (.str p0.Name)), (.d (.str p0.Src)), (.d (.int .i64 p0.N)), (.d (.sl (List.map rS p0.Cols))), (.d (.sl (List.map TE.row p0.Exprs))), (.d (.sl (List.map TS.row p0.Body))), (.d (.sl (List.map TS.row p0.Else)))]), .fresh, .fresh, .fresh, .fresh, .fresh, .fresh]) ?_ ?_
 · refine Al ?_
   refine HX (k := 1) rfl rfl ?_
   unfold WC
   refine Ah (R := []) rfl rfl (Ab (e_t eh) (Aa ?_))
   obtain ⟨v3, hc_v3, hr⟩ := bind_some hr
   refine Gg (Ar (e_t eh) AF (Ar e_c AF AM)) (Cf (e_t eh) (by exact rfl) (Cf e_c (by exact rfl) FL)) (fun st2 => OG n v2 (110 : Int) hc_v3 ⟨rfl, rfl⟩) ?_
   refine Ah (R := []) rfl rfl (AB (e_t (Ak rfl (Ac rfl h1))) (by exact rfl) (Aa ?_))
   refine Ah rfl (BL (e_t eh)) (Ap (e_t eh) ((Am rfl 0).trans rfl) (by exact rfl) (Aa ?_))
   refine Ah (R := []) rfl rfl (As (e_t eh) e_c (MD (Aa ?_)))
   refine Ah (R := []) rfl rfl (Aw3 (e_t (Ac rfl (em rfl eh))) (e_t eh) (Aa ?_))
   refine Ah (R := []) rfl rfl (Ab (e_t eh) (Aa ?_))
   refine CK eh hr (fun hr => ?_) (fun hr => ?_)
   · refine Az eh (Az (em rfl eh) (Az (Ac rfl eh) (Az (Ac rfl (em rfl eh)) (Az (Ad rfl eh) (Az (Ad rfl (em rfl eh)) ?_)))))
     refine Ah (R := []) rfl rfl (An (e_t (Ad rfl (Ac rfl eh))) e_c (Aa ?_))
     refine Ah (R := []) rfl rfl (Ab (e_t eh) (Aa ?_))
     refine Az eh (Az (em rfl eh) (Az (Ac rfl eh) ?_))
     refine A3 eh ?_
     refine A3 (em rfl eh) ?_
     refine A3 (Ac rfl eh) ?_
     refine A3 (Ac rfl (em rfl eh)) ?_
     refine Az (Ad rfl (Ac rfl (em rfl eh))) ?_
     refine Ah (R := []) rfl rfl (An (e_t (Ad rfl (Ad rfl eh))) e_c (Aa ?_))
     refine Ah (R := []) rfl rfl (Ab (e_t eh) (Aa ?_))
     refine Az eh (Az (em rfl eh) (Az (Ac rfl eh) ?_))
     refine A3 eh ?_
     refine A3 (em rfl eh) ?_
     refine A3 (Ac rfl eh) ?_
     refine A3 (Ac rfl (em rfl eh)) ?_
     refine Az (Ad rfl (Ac rfl (em rfl eh))) ?_
     refine Ah (R := []) rfl rfl (An (e_t (Ad rfl (Ad rfl eh))) e_c (Aa ?_))
     refine BJ ?_
     refine ⟨by simp [B2, okPairs, BZ, Ga], ?_⟩
     refine Ae ?_
     refine Dy (e_t eh) ?_
     refine Al (Af ?_)
     unfold IY
     refine Ab e_c (Aa (Ae (AI (AA ?_))))
     cases hr
     exact A7 (AG eh AH) (AN AF v_d) (Ay hwf) h
   refine AZ eh ?_
   refine Ah (R := []) rfl rfl (Ab (e_t (Ad rfl (Ad rfl eh))) (Aa ?_))
   refine AZ (em rfl eh) ?_
   obtain ⟨v4, hc_v4, hr⟩ := bind_some hr
   refine Gg (Ar (e_t eh) AF (Ar e_c AF AM)) (Cf (e_t eh) (by exact rfl) (Cf e_c (by exact rfl) FL)) (fun st2 => OG n v2 (115 : Int) hc_v4 ⟨rfl, rfl⟩) ?_
   refine AZ (Ac rfl eh) ?_
   refine Ah (R := []) rfl rfl (AB (e_t (Aj rfl (Ac rfl h1))) (by exact rfl) (Aa ?_))
   refine AZ (Ac rfl (em rfl eh)) ?_
   refine Ah rfl (BL (e_t eh)) (Ap (e_t eh) ((Am rfl 0).trans rfl) (by exact rfl) (Aa ?_))
   refine AZ (Ad rfl eh) ?_
   refine Ah (R := []) rfl rfl (As (e_t eh) e_c (MD (Aa ?_)))
   refine AZ (Ad rfl (em rfl eh)) ?_
   refine Ah (R := []) rfl rfl (Aw3 (e_t (Ac rfl (em rfl eh))) (e_t eh) (Aa ?_))
   refine Ah (R := []) rfl rfl (Ao (e_t (Ad rfl (Ac rfl eh))) (e_t eh) (Aa ?_))
   refine Ah (R := []) rfl rfl (Ab (e_t eh) (Aa ?_))
   refine CK eh hr (fun hr => ?_) (fun hr => ?_)
   · refine Az eh (Az (em rfl eh) (Az (Ac rfl eh) ?_))
     refine A3 eh ?_
     refine A3 (em rfl eh) ?_
     refine A3 (Ac rfl eh) ?_
     refine A3 (Ac rfl (em rfl eh)) ?_
     refine Az (Ad rfl (Ac rfl (em rfl eh))) ?_
     refine Ah (R := []) rfl rfl (An (e_t (Ad rfl (Ad rfl eh))) e_c (Aa ?_))
     refine Ah (R := []) rfl rfl (Ab (e_t eh) (Aa ?_))
     refine Az eh (Az (em rfl eh) (Az (Ac rfl eh) ?_))
     refine A3 eh ?_
     refine A3 (em rfl eh) ?_
     refine A3 (Ac rfl eh) ?_
     refine A3 (Ac rfl (em rfl eh)) ?_
     refine Az (Ad rfl (Ac rfl (em rfl eh))) ?_
     refine Ah (R := []) rfl rfl (An (e_t (Ad rfl (Ad rfl eh))) e_c (Aa ?_))
     refine BJ ?_
     refine ⟨by simp [B2, okPairs, BZ, Ga], ?_⟩
     refine Ae ?_
     refine Dy (e_t eh) ?_
     refine Al (Af ?_)
     unfold IY
     refine Ab e_c (Aa (Ae (AI (AA ?_))))
     cases hr
     exact A7 (AG eh AH) (AN AF v_d) (Ay hwf) h
   refine AZ eh ?_
   refine Ah (R := []) rfl rfl (Ab (e_t (Aj rfl (em rfl eh))) (Aa ?_))
   refine AZ (em rfl eh) ?_
   obtain ⟨v5, hc_v5, hr⟩ := bind_some hr
   refine Gg (Ar (e_t eh) AF (Ar e_c AF AM)) (Cf (e_t eh) (by exact rfl) (Cf e_c (by exact rfl) FL)) (fun st2 => OG n v2 (110 : Int) hc_v5 ⟨rfl, rfl⟩) ?_
   refine AZ (Ac rfl eh) ?_
   refine Ah (R := []) rfl rfl (Ab (e_t eh) (Aa ?_))
   refine CK eh hr (fun hr => ?_) (fun hr => ?_)
   rotate_left
   · refine Az eh (Az (em rfl eh) (Az (Ac rfl eh) (Az (Ac rfl (em rfl eh)) (AZ (Ad rfl (Ad rfl eh)) ?_))))
     refine Ah (R := []) rfl rfl (Ao (e_t (Ad rfl eh)) e_c (Aa ?_))
     refine Ah (R := []) rfl rfl (Ao (e_t (Ak rfl (em rfl eh))) (e_t eh) (Aa ?_))
     refine Ah (R := []) rfl rfl (Ab (e_t eh) (Aa ?_))
     refine AZ eh ?_
     refine Ah (R := []) rfl rfl (Ab (e_t (Aj rfl (Ak rfl (Ad rfl eh)))) (Aa ?_))
     refine AZ (em rfl eh) ?_
     obtain ⟨v9, hc_v9, hr⟩ := bind_some hr
     refine Gg (Ar (e_t eh) AF (Ar e_c AF AM)) (Cf (e_t eh) (by exact rfl) (Cf e_c (by exact rfl) FL)) (fun st2 => OG n v2 (115 : Int) hc_v9 ⟨rfl, rfl⟩) ?_
     refine AZ (Ac rfl eh) ?_
     refine Ah (R := []) rfl rfl (Ab (e_t eh) (Aa ?_))
     refine CK eh hr (fun hr => ?_) (fun hr => ?_)
     rotate_left
     · refine Az eh (Az (em rfl eh) (Az (Ac rfl eh) (Az (Ac rfl (em rfl eh)) (AZ (Ad rfl (Ad rfl eh)) ?_))))
       refine Ah (R := []) rfl rfl (Ao (e_t (Ad rfl eh)) e_c (Aa ?_))
       refine Ah (R := []) rfl rfl (Ao (e_t (Ak rfl (em rfl eh))) (e_t eh) (Aa ?_))
       refine BJ ?_
       refine ⟨by simp [B2, okPairs, BZ, Ga], ?_⟩
       refine Ae ?_
       refine EZ (e_t eh) ?_
       refine AO (Ae ?_)
       exact ⟨hr, (Aj rfl (Aj rfl (Ak rfl (Ad rfl (Ac rfl h1))))), (Aj rfl (Aj rfl (Ad rfl (Ac rfl eh)))), rfl⟩
     refine AZ eh ?_
     refine Ah (R := []) rfl rfl (AB (e_t (Aj rfl (Aj rfl (Ad rfl (Ad rfl h1))))) (by exact rfl) (Aa ?_))
     refine AZ (em rfl eh) ?_
     refine Ah rfl (BL (e_t eh)) (Ap (e_t eh) ((Am rfl 0).trans rfl) (by exact rfl) (Aa ?_))
     refine AZ (Ac rfl eh) ?_
     obtain ⟨v10, hc_v10, hr⟩ := bind_some hr
     refine Gg (Ar (e_t eh) AF AM) (Cf (e_t eh) (by exact rfl) FL) (fun st2 => Ko n p0.Src hc_v10 ⟨rfl, rfl⟩) ?_
     refine AZ (Ac rfl (em rfl eh)) ?_
     refine Ah (R := []) rfl rfl (C2 (e_t eh) (Aa ?_))
     refine AZ (Ad rfl (Ad rfl eh)) ?_
     refine Ah (R := []) rfl rfl (An (e_t (Ad rfl eh)) (e_t eh) (Aa ?_))
     refine Ah (R := []) rfl rfl (Ao (e_t (Ak rfl (em rfl eh))) (e_t eh) (Aa ?_))
     refine BJ ?_
     refine ⟨by simp [B2, okPairs, BZ, Ga], ?_⟩
     refine Ae ?_
     refine AC (e_t eh) hr (fun hr => ?_) (fun hr => ?_)
     rotate_left
     · refine AO (Ae ?_)
       exact ⟨hr, (Aj rfl (Aj rfl (Ak rfl (Ad rfl (Ac rfl h1))))), (Aj rfl (Aj rfl (Ad rfl (Ac rfl eh)))), rfl⟩
     refine Al (Af ?_)
     unfold IY
     refine Ab e_c (Aa (Ae (AI (AA ?_))))
     cases hr
     exact A7 (AG eh AH) (AN AF v_d) (Ay hwf) h
   refine AZ eh ?_
   refine Ah (R := []) rfl rfl (AB (e_t (Aj rfl (Ak rfl (Ad rfl (em rfl h1))))) (by exact rfl) (Aa ?_))
   refine AZ (em rfl eh) ?_
   refine Ah rfl (BL (e_t eh)) (Ap (e_t eh) ((Am rfl 0).trans rfl) (by exact rfl) (Aa ?_))
   refine AZ (Ac rfl eh) ?_
   obtain ⟨v6, hc_v6, hr⟩ := bind_some hr
   refine Gg (Ar (e_t eh) AF AM) (Cf (e_t eh) (by exact rfl) FL) (fun st2 => Ko n p0.Name hc_v6 ⟨rfl, rfl⟩) ?_
   refine AZ (Ac rfl (em rfl eh)) ?_
   refine Ah (R := []) rfl rfl (C2 (e_t eh) (Aa ?_))
   refine AZ (Ad rfl (Ad rfl eh)) ?_
   refine Ah (R := []) rfl rfl (An (e_t (Ad rfl eh)) (e_t eh) (Aa ?_))
   refine Ah (R := []) rfl rfl (Ao (e_t (Ak rfl (em rfl eh))) (e_t eh) (Aa ?_))
   refine Ah (R := []) rfl rfl (Ab (e_t eh) (Aa ?_))
   refine CK eh hr (fun hr => ?_) (fun hr => ?_)
   · refine Az eh (Az (em rfl eh) (Az (Ac rfl eh) ?_))
     refine A3 eh ?_
     refine A3 (em rfl eh) ?_
     refine A3 (Ac rfl eh) ?_
     refine A3 (Ac rfl (em rfl eh)) ?_
     refine Az (Ad rfl (Ac rfl (em rfl eh))) ?_
     refine Ah (R := []) rfl rfl (An (e_t (Ad rfl (Ad rfl eh))) e_c (Aa ?_))
     refine BJ ?_
     refine ⟨by simp [B2, okPairs, BZ, Ga], ?_⟩
     refine Ae ?_
     refine Dy (e_t eh) ?_
     refine Al (Af ?_)
     unfold IY
     refine Ab e_c (Aa (Ae (AI (AA ?_))))
     cases hr
     exact A7 (AG eh AH) (AN AF v_d) (Ay hwf) h
   refine AZ eh ?_
   refine Ah (R := []) rfl rfl (Ab (e_t (Aj rfl (Ak rfl (Ad rfl (em rfl eh))))) (Aa ?_))
   refine AZ (em rfl eh) ?_
   obtain ⟨v7, hc_v7, hr⟩ := bind_some hr
   refine Gg (Ar (e_t eh) AF (Ar e_c AF AM)) (Cf (e_t eh) (by exact rfl) (Cf e_c (by exact rfl) FL)) (fun st2 => OG n v2 (115 : Int) hc_v7 ⟨rfl, rfl⟩) ?_
   refine AZ (Ac rfl eh) ?_
   refine Ah (R := []) rfl rfl (Ab (e_t eh) (Aa ?_))
   refine CK eh hr (fun hr => ?_) (fun hr => ?_)
   rotate_left
   · refine Az eh (Az (em rfl eh) (Az (Ac rfl eh) (Az (Ac rfl (em rfl eh)) (AZ (Ad rfl (Ad rfl eh)) ?_))))
     refine Ah (R := []) rfl rfl (Ao (e_t (Ad rfl eh)) e_c (Aa ?_))
     refine Ah (R := []) rfl rfl (Ao (e_t (Ak rfl (em rfl eh))) (e_t eh) (Aa ?_))
     refine BJ ?_
     refine ⟨by simp [B2, okPairs, BZ, Ga], ?_⟩
     refine Ae ?_
     refine EZ (e_t eh) ?_
     refine AO (Ae ?_)
     exact ⟨hr, (Aj rfl (Aj rfl (Ak rfl (Ad rfl (Ac rfl (em rfl h1)))))), (Aj rfl (Aj rfl (Ad rfl (Ac rfl (em rfl eh))))), rfl⟩
   refine AZ eh ?_
   refine Ah (R := []) rfl rfl (AB (e_t (Aj rfl (Aj rfl (Ak rfl (em rfl h1))))) (by exact rfl) (Aa ?_))
   refine AZ (em rfl eh) ?_
   refine Ah rfl (BL (e_t eh)) (Ap (e_t eh) ((Am rfl 0).trans rfl) (by exact rfl) (Aa ?_))
   refine AZ (Ac rfl eh) ?_
   obtain ⟨v8, hc_v8, hr⟩ := bind_some hr
   refine Gg (Ar (e_t eh) AF AM) (Cf (e_t eh) (by exact rfl) FL) (fun st2 => Ko n p0.Src hc_v8 ⟨rfl, rfl⟩) ?_
   refine AZ (Ac rfl (em rfl eh)) ?_
   refine Ah (R := []) rfl rfl (C2 (e_t eh) (Aa ?_))
   refine AZ (Ad rfl (Ad rfl eh)) ?_
   refine Ah (R := []) rfl rfl (An (e_t (Ad rfl eh)) (e_t eh) (Aa ?_))
   refine Ah (R := []) rfl rfl (Ao (e_t (Ak rfl (em rfl eh))) (e_t eh) (Aa ?_))
   refine BJ ?_
   refine ⟨by simp [B2, okPairs, BZ, Ga], ?_⟩
   refine Ae ?_
   refine AC (e_t eh) hr (fun hr => ?_) (fun hr => ?_)
   rotate_left
   · refine AO (Ae ?_)
     exact ⟨hr, (Aj rfl (Aj rfl (Ak rfl (Ad rfl (Ac rfl (em rfl h1)))))), (Aj rfl (Aj rfl (Ad rfl (Ac rfl (em rfl eh))))), rfl⟩
   refine Al (Af ?_)
   unfold IY
   refine Ab e_c (Aa (Ae (AI (AA ?_))))
   cases hr
   exact A7 (AG eh AH) (AN AF v_d) (Ay hwf) h
 rintro f st' ⟨hr, h1, h4, rfl⟩
 rw [C1] at hr
 refine By (fun f st' => CF p0 s_RBlocks n = some r ∧ f 1 = (.ptr (st.length + 0) 0) ∧ st' = st ++ [(.box [(.d (.int .i64 p0.Op)), (.d (.str p0.Name)), (.d (.str p0.Src)), (.d (.int .i64 p0.N)), (.d (.sl (List.map rS p0.Cols))), (.d (.sl (List.map TE.row p0.Exprs))), (.d (.sl (List.map TS.row p0.Body))), (.d (.sl (List.map TS.row p0.Else)))]), .fresh, .fresh, .fresh, .fresh, .fresh, .fresh, .fresh, .fresh, .fresh, .fresh]) ?_ ?_
 rotate_left
 · rintro f st' ⟨hr, h1, rfl⟩
   rw [CF] at hr
   refine By (fun f st' => FZ p0 s_RBlocks n = some r ∧ f 1 = (.ptr (st.length + 0) 0) ∧ st' = st ++ [(.box [(.d (.int .i64 p0.Op)), (.d (.str p0.Name)), (.d (.str p0.Src)), (.d (.int .i64 p0.N)), (.d (.sl (List.map rS p0.Cols))), (.d (.sl (List.map TE.row p0.Exprs))), (.d (.sl (List.map TS.row p0.Body))), (.d (.sl (List.map TS.row p0.Else)))]), .fresh, .fresh, .fresh, .fresh, .fresh, .fresh, .fresh, .fresh, .fresh, .fresh]) ?_ ?_
   · refine Al (Af ?_)
     unfold XR
     refine Ab e_c (Aa (Ae ?_))
     refine AT ?_
     refine BX (fun m f st' => ∃ (v19 : Int), CA p0 s_RBlocks n m v19 = some r ∧ f 1 = (.ptr (st.length + 0) 0) ∧ f 5 = (.d (.int .i64 v19)) ∧ st' = st ++ [(.box [(.d (.int .i64 p0.Op)), (.d (.str p0.Name)), (.d (.str p0.Src)), (.d (.int .i64 p0.N)), (.d (.sl (List.map rS p0.Cols))), (.d (.sl (List.map TE.row p0.Exprs))), (.d (.sl (List.map TS.row p0.Body))), (.d (.sl (List.map TS.row p0.Else)))]), .fresh, .fresh, .fresh, .fresh, .fresh, .fresh, .fresh, .fresh, .fresh, .fresh]) n (Ghost.refl _) ⟨(0 : Int), hr, (em rfl h1), eh, rfl⟩ ?_
     rintro m f st' ⟨v19, hr, h1, h5, rfl⟩
     cases m with
     | zero => cases hr
     | succ m_1 =>
       rw [CA] at hr
       generalize hrec_1 : CA p0 s_RBlocks n m_1 = q1 at hr
       rw [GX] at hr
       unfold TT
       refine Al (Al (Af ?_))
       unfold Tk
       refine Ab (e_t h5) ?_
       refine AB (e_t (em rfl h1)) (by exact rfl) ?_
       refine Ap (e_t eh) ((Am rfl 0).trans rfl) (by exact rfl) ?_
       refine Bh (row := rS) (AP (e_t eh) Bt) ?_
       refine As (e_t (Ac rfl (em rfl eh))) (e_t eh) (CM ?_)
       refine Aa (Ae ?_)
       refine AC (e_t eh) hr (fun hr => ?_) (fun hr => ?_)
       rotate_left
       · refine CG ?_
         refine AW ?_
         refine AW ?_
         refine DF ?_
         refine Ae ?_
         exact ⟨hr, (Ad rfl (em rfl h1)), rfl⟩
       refine AO (Ae (Al ?_))
       refine AT ?_
       refine Al (Al (Af ?_))
       unfold TM
       refine AB (e_t (Ad rfl (em rfl h1))) (by exact rfl) ?_
       refine Ap (e_t eh) ((Am rfl 0).trans rfl) (by exact rfl) ?_
       refine Ab (e_t (Ad rfl (Ac rfl (em rfl h5)))) ?_
       refine Br (row := rS) (AP (e_t (em rfl eh)) Bt) (e_t eh) hr (fun _ => rfl) (fun _ => rfl) (fun v20 hr => ?_)
       refine BI (e_t eh) (by exact rfl) ?_
       obtain ⟨v21, hc_v21, hr⟩ := bind_some hr
       refine AJ (Ar (e_t eh) AF AM) ?_
       refine Ko n v20 hc_v21 ?_
       refine C2 (e_t eh) (Aa (Ae ?_))
       refine AC (e_t eh) hr (fun hr => ?_) (fun hr => ?_)
       · refine Al (Af ?_)
         unfold VN
         refine Ab e_c (Aa (Ae (AI (AA ?_))))
         refine BH ?_
         refine AA (AA ?_)
         refine BH ?_
         refine AA ?_
         cases hr
         exact A7 (AG eh AH) (AN AF v_d) (Ay hwf) h
       refine AO (Ae (Al (Af ?_)))
       unfold Uq
       refine Ab e_c (Aa (Ae ?_))
       refine AT ?_
       refine BX (fun m f st' => ∃ (v22 : Int), Cr p0 v19 q1 m v22 = some r ∧ f 1 = (.ptr (st.length + 0) 0) ∧ f 5 = (.d (.int .i64 v19)) ∧ f 6 = (.d (.int .i64 v22)) ∧ st' = st ++ [(.box [(.d (.int .i64 p0.Op)), (.d (.str p0.Name)), (.d (.str p0.Src)), (.d (.int .i64 p0.N)), (.d (.sl (List.map rS p0.Cols))), (.d (.sl (List.map TE.row p0.Exprs))), (.d (.sl (List.map TS.row p0.Body))), (.d (.sl (List.map TS.row p0.Else)))]), .fresh, .fresh, .fresh, .fresh, .fresh, .fresh, .fresh, .fresh, .fresh, .fresh]) n (Ghost.refl _) ⟨(0 : Int), hr, (Ak rfl (Ad rfl (em rfl h1))), (Ak rfl (Ad rfl (em rfl h5))), eh, rfl⟩ ?_
       rintro m f st' ⟨v22, hr, h1, h5, h6, rfl⟩
       cases m with
       | zero => cases hr
       | succ m_2 =>
         rw [Cr] at hr
         generalize hrec_2 : Cr p0 v19 q1 m_2 = q2 at hr
         rw [G5] at hr
         unfold Ux
         refine Al (Al (Af ?_))
         unfold TG
         refine Ab (e_t h6) (Ab (e_t (em rfl h5)) ?_)
         refine As (e_t (em rfl eh)) (e_t eh) (CM ?_)
         refine Aa (Ae ?_)
         refine AC (e_t eh) hr (fun hr => ?_) (fun hr => ?_)
         rotate_left
         · refine CG ?_
           refine AW ?_
           refine AW ?_
           refine DF ?_
           refine BB ?_
           refine Ae (Af ?_)
           unfold Ts
           refine Ab (e_t (Ac rfl (em rfl h5))) ?_
           refine As (e_t eh) e_c (BU ?_)
           refine Ab (e_t eh) (Aa (Ae ?_))
           exact ⟨m_1, _, Nat.lt_succ_self m_1, Ghost.refl _, (IntKind.wrap .i64 (v19 + (1 : Int))), (by rw [hrec_1]; exact hr), (Ad rfl (Ac rfl h1)), eh, rfl⟩
         refine AO (Ae (Al ?_))
         refine AT ?_
         refine Al ?_
         refine DP (k := 11) rfl rfl ?_
         unfold TX
         refine AB (e_t (Ac rfl (em rfl h1))) (by exact rfl) ?_
         refine Ap (e_t eh) ((Am rfl 0).trans rfl) (by exact rfl) ?_
         refine Ab (e_t (Ad rfl (em rfl h6))) ?_
         refine Br (row := rS) (AP (e_t (em rfl eh)) Bt) (e_t eh) hr (fun _ => rfl) (fun _ => rfl) (fun v23 hr => ?_)
         refine BI (e_t eh) (by exact rfl) ?_
         refine AB (e_t (Ad rfl (Ad rfl h1))) (by exact rfl) ?_
         refine Ap (e_t eh) ((Am rfl 0).trans rfl) (by exact rfl) ?_
         refine Ab (e_t (Ak rfl (Ac rfl h5))) ?_
         refine Br (row := rS) (AP (e_t (em rfl eh)) Bt) (e_t eh) hr (fun _ => rfl) (fun _ => rfl) (fun v24 hr => ?_)
         refine BI (e_t eh) (by exact rfl) ?_
         refine As (e_t (Ad rfl (em rfl eh))) (e_t eh) (Dg ?_)
         refine Aa (Ae ?_)
         refine AC (e_t eh) hr (fun hr => ?_) (fun hr => ?_)
         rotate_left
         · refine AO ?_
           refine BB ?_
           refine Ae (Af ?_)
           unfold Vi
           refine Ab (e_t (Ak rfl (Ad rfl (Ac rfl h6)))) ?_
           refine As (e_t eh) e_c (BU ?_)
           refine Ab (e_t eh) (Aa (Ae ?_))
           exact ⟨m_2, _, Nat.lt_succ_self m_2, Ghost.refl _, (IntKind.wrap .i64 (v22 + (1 : Int))), (by rw [hrec_2]; exact hr), (Aj rfl (em rfl h1)), (Aj rfl (em rfl h5)), eh, rfl⟩
         refine Al (Af ?_)
         unfold Up
         refine Ab e_c (Aa (Ae (AI ?_)))
         refine BH ?_
         refine AA (AA ?_)
         refine BH ?_
         refine BH ?_
         refine AA (AA ?_)
         refine BH ?_
         refine AA ?_
         cases hr
         exact A7 (AG eh AH) (AN AF v_d) (Ay hwf) h
   rintro f st' ⟨hr, h1, rfl⟩
   rw [FZ] at hr
   refine Al (Af ?_)
   unfold VZ
   refine AB (e_t h1) (by exact rfl) ?_
   refine Ap (e_t eh) ((Am rfl 0).trans rfl) (by exact rfl) ?_
   refine Bh (row := TE.row) (AP (e_t eh) Bt) ?_
   refine Ab (e_t eh) (Aa (Ae ?_))
   refine By (fun f st' => ∃ (v25 : Bool), E6 p0 s_RBlocks n v25 = some r ∧ f 1 = (.ptr (st.length + 0) 0) ∧ f 7 = (.d (.int .i64 (p0.Exprs.length : Int))) ∧ f 8 = (.d (.bool v25)) ∧ st' = st ++ [(.box [(.d (.int .i64 p0.Op)), (.d (.str p0.Name)), (.d (.str p0.Src)), (.d (.int .i64 p0.N)), (.d (.sl (List.map rS p0.Cols))), (.d (.sl (List.map TE.row p0.Exprs))), (.d (.sl (List.map TS.row p0.Body))), (.d (.sl (List.map TS.row p0.Else)))]), .fresh, .fresh, .fresh, .fresh, .fresh, .fresh, .fresh, .fresh, .fresh, .fresh]) ?_ ?_
   · refine Af ?_
     unfold UO
     refine Bn ?_
     unfold Qp
     refine AB (e_t (Ad rfl h1)) (by exact rfl) ?_
     refine Ap (e_t eh) ((Am rfl 0).trans rfl) (by exact rfl) ?_
     refine As (e_t eh) e_c (BK ?_)
     refine Ab (e_t eh) ?_
     refine Au eh hr (fun hr => ?_) (fun hr => ?_)
     · refine Ag eh (Ag (em rfl eh) (Ag (Ac rfl eh) (An (e_t (Ac rfl (em rfl eh))) e_c (Aa ?_))))
       refine Bn ?_
       unfold Mq
       refine Ab (e_t eh) (Ag eh (Ag (em rfl eh) (Ag (Ac rfl eh) (An (e_t (Ac rfl (em rfl eh))) e_c (Aa ?_)))))
       unfold JG
       refine Ab (e_t eh) (Aa (Ae ?_))
       exact ⟨true, hr, (Aj rfl (Ac rfl (em rfl h1))), (Ak rfl (Ad rfl (Ac rfl (em rfl eh)))), eh, rfl⟩
     refine Ai eh ?_
     refine AB (e_t (Ak rfl (em rfl h1))) (by exact rfl) ?_
     refine Ai (em rfl eh) ?_
     refine Ap (e_t eh) ((Am rfl 0).trans rfl) (by exact rfl) ?_
     refine Ai (Ac rfl eh) ?_
     refine As (e_t eh) e_c (BK ?_)
     refine Ao (e_t (Ac rfl (em rfl eh))) (e_t eh) (Aa ?_)
     refine Bn ?_
     unfold Mq
     refine Ab (e_t eh) ?_
     refine Au eh hr (fun hr => ?_) (fun hr => ?_)
     · refine Ag eh (Ag (em rfl eh) (Ag (Ac rfl eh) (An (e_t (Ac rfl (em rfl eh))) e_c (Aa ?_))))
       unfold JG
       refine Ab (e_t eh) (Aa (Ae ?_))
       exact ⟨true, hr, (Aj rfl (Ad rfl h1)), (Ak rfl (Ad rfl (Ad rfl eh))), eh, rfl⟩
     refine Ai eh ?_
     refine AB (e_t (Ak rfl (Ad rfl (Ac rfl (em rfl h1))))) (by exact rfl) ?_
     refine Ai (em rfl eh) ?_
     refine Ap (e_t eh) ((Am rfl 0).trans rfl) (by exact rfl) ?_
     refine Ai (Ac rfl eh) ?_
     refine As (e_t eh) e_c (BK ?_)
     refine Ao (e_t (Ac rfl (em rfl eh))) (e_t eh) (Aa ?_)
     unfold JG
     refine Ab (e_t eh) (Aa (Ae ?_))
     exact ⟨(decide (p0.Op = (10 : Int))), hr, (Aj rfl (Ad rfl h1)), (Ak rfl (Ad rfl (Ad rfl eh))), eh, rfl⟩
   rintro f st' ⟨v25, hr, h1, h7, h8, rfl⟩
   rw [E6] at hr
   refine By (fun f st' => Ft p0 s_RBlocks n = some r ∧ f 1 = (.ptr (st.length + 0) 0) ∧ f 7 = (.d (.int .i64 (p0.Exprs.length : Int))) ∧ st' = st ++ [(.box [(.d (.int .i64 p0.Op)), (.d (.str p0.Name)), (.d (.str p0.Src)), (.d (.int .i64 p0.N)), (.d (.sl (List.map rS p0.Cols))), (.d (.sl (List.map TE.row p0.Exprs))), (.d (.sl (List.map TS.row p0.Body))), (.d (.sl (List.map TS.row p0.Else)))]), .fresh, .fresh, .fresh, .fresh, .fresh, .fresh, .fresh, .fresh, .fresh, .fresh]) ?_ ?_
   · refine Al (Af ?_)
     unfold Tf
     refine A1 (fun f st' => ∃ (v26 : Bool), FX p0 s_RBlocks n v25 v26 = some r ∧ f 1 = (.ptr (st.length + 0) 0) ∧ f 7 = (.d (.int .i64 (p0.Exprs.length : Int))) ∧ f 8 = (.d (.bool v25)) ∧ f 167 = (.d (.bool v26)) ∧ st' = st ++ [(.box [(.d (.int .i64 p0.Op)), (.d (.str p0.Name)), (.d (.str p0.Src)), (.d (.int .i64 p0.N)), (.d (.sl (List.map rS p0.Cols))), (.d (.sl (List.map TE.row p0.Exprs))), (.d (.sl (List.map TS.row p0.Body))), (.d (.sl (List.map TS.row p0.Else)))]), .fresh, .fresh, .fresh, .fresh, .fresh, .fresh, .fresh, .fresh, .fresh, .fresh]) ?_ ?_
     · unfold Q1
       refine Ab (e_t h8) (Ab (e_t eh) ?_)
       refine Au eh hr (fun hr => ?_) (fun hr => ?_)
       rotate_left
       · refine Ag eh (Ag (em rfl eh) (Ag (Ac rfl eh) ?_))
         refine A4 eh ?_
         refine A4 (em rfl eh) ?_
         refine Ag (Ad rfl (em rfl eh)) (Ao (e_t (Ad rfl (Ac rfl eh))) e_c (Aa ?_))
         exact ⟨false, hr, (Ak rfl (Ac rfl h1)), (Ak rfl (Ac rfl h7)), (Ak rfl (Ac rfl h8)), eh, rfl⟩
       refine Ai eh (Ab (e_t (Ac rfl (em rfl h7))) (Ai (em rfl eh) ?_))
       refine As (e_t eh) e_c (CM ?_)
       refine Ai (Ac rfl eh) (Ab (e_t eh) ?_)
       refine Au eh hr (fun hr => ?_) (fun hr => ?_)
       · refine Ag eh (Ag (em rfl eh) (Ai (Ad rfl (Ac rfl eh)) (An (e_t (Ac rfl eh)) e_c (An (e_t (Ad rfl (Ac rfl (em rfl eh)))) (e_t eh) (Aa ?_)))))
         exact ⟨true, hr, (Ak rfl (Ac rfl (em rfl h1))), (Ak rfl (Ac rfl (em rfl h7))), (Ak rfl (Ac rfl (em rfl h8))), eh, rfl⟩
       refine Ai eh (Ab (e_t (Ad rfl (Ac rfl (em rfl h7)))) (Ai (em rfl eh) ?_))
       refine As (e_t eh) e_c (C8 ?_)
       refine Ai (Ad rfl (Ac rfl eh)) (Ao (e_t (Ac rfl eh)) (e_t eh) (An (e_t (Ad rfl (Ac rfl (em rfl eh)))) (e_t eh) (Aa ?_)))
       exact ⟨(decide ((8 : Int) < (p0.Exprs.length : Int))), hr, (Ak rfl (Ac rfl (em rfl h1))), (Ak rfl (Ac rfl (em rfl h7))), (Ak rfl (Ac rfl (em rfl h8))), eh, rfl⟩
     rintro f st' ⟨v26, hr, h1, h7, h8, h167, rfl⟩
     rw [FX] at hr
     unfold Qr
     refine Ab (e_t h167) ?_
     refine Au eh hr (fun hr => ?_) (fun hr => ?_)
     · refine Ag eh (Ag (em rfl eh) (Ag (Ac rfl eh) ?_))
       refine A4 eh ?_
       refine A4 (em rfl eh) ?_
       refine A4 (Ac rfl eh) ?_
       refine A4 (Ac rfl (em rfl eh)) ?_
       refine A4 (Ad rfl eh) ?_
       refine A4 (Ad rfl (em rfl eh)) ?_
       refine Ag (Ak rfl (em rfl eh)) (An (e_t (Ak rfl (Ac rfl eh))) e_c (Aa (Ae ?_)))
       refine Dy (e_t eh) ?_
       refine Al (Af ?_)
       unfold Pj
       refine Ab e_c (Aa (Ae (AI (AA ?_))))
       cases hr
       exact A7 (AG eh AH) (AN AF v_d) (Ay hwf) h
     refine Ai eh (Ab (e_t (Ac rfl h8)) (Ai (em rfl eh) (C2 (e_t eh) (Ai (Ac rfl eh) (Ab (e_t eh) ?_)))))
     refine Au eh hr (fun hr => ?_) (fun hr => ?_)
     rotate_left
     · refine Ag eh (Ag (em rfl eh) (Ag (Ac rfl eh) (Ag (Ac rfl (em rfl eh)) (Ag (Ad rfl eh) (Ag (Ad rfl (em rfl eh)) ?_)))))
       refine Ai (Ak rfl (Ac rfl eh)) (Ao (e_t (Ad rfl (Ac rfl eh))) e_c (Ao (e_t (Ak rfl (Ac rfl (em rfl eh)))) (e_t eh) (Aa (Ae ?_))))
       refine EZ (e_t eh) ?_
       refine AO (Ae ?_)
       exact ⟨hr, (Ak rfl (Ad rfl (Ac rfl h1))), (Ak rfl (Ad rfl (Ac rfl h7))), rfl⟩
     refine Ai eh (Ab (e_t (Ad rfl (Ac rfl h7))) (Ai (em rfl eh) ?_))
     refine AB (e_t (Ad rfl (Ac rfl (em rfl h1)))) (by exact rfl) ?_
     refine Ai (Ac rfl eh) ?_
     refine Ap (e_t eh) ((Am rfl 0).trans rfl) (by exact rfl) ?_
     refine Ai (Ac rfl (em rfl eh)) ?_
     refine Bh (row := rS) (AP (e_t eh) Bt) ?_
     refine Ai (Ad rfl eh) ?_
     refine As e_c (e_t eh) (BU ?_)
     refine Ai (Ad rfl (em rfl eh)) ?_
     refine As (e_t (Ad rfl eh)) (e_t eh) (SP ?_)
     refine Ai (Ak rfl (Ac rfl eh)) (An (e_t (Ad rfl (Ac rfl eh))) (e_t eh) (Ao (e_t (Ak rfl (Ac rfl (em rfl eh)))) (e_t eh) (Aa (Ae ?_))))
     refine AC (e_t eh) hr (fun hr => ?_) (fun hr => ?_)
     rotate_left
     · refine AO (Ae ?_)
       exact ⟨hr, (Ak rfl (Ad rfl (Ac rfl h1))), (Ak rfl (Ad rfl (Ac rfl h7))), rfl⟩
     refine Al (Af ?_)
     unfold Pj
     refine Ab e_c (Aa (Ae (AI (AA ?_))))
     cases hr
     exact A7 (AG eh AH) (AN AF v_d) (Ay hwf) h
   rintro f st' ⟨hr, h1, h7, rfl⟩
   rw [Ft] at hr
   refine By (fun f st' => GQ p0 s_RBlocks = some r ∧ f 1 = (.ptr (st.length + 0) 0) ∧ st' = st ++ [(.box [(.d (.int .i64 p0.Op)), (.d (.str p0.Name)), (.d (.str p0.Src)), (.d (.int .i64 p0.N)), (.d (.sl (List.map rS p0.Cols))), (.d (.sl (List.map TE.row p0.Exprs))), (.d (.sl (List.map TS.row p0.Body))), (.d (.sl (List.map TS.row p0.Else)))]), .fresh, .fresh, .fresh, .fresh, .fresh, .fresh, .fresh, .fresh, .fresh, .fresh]) ?_ ?_
   rotate_left
   · rintro f st' ⟨hr, h1, rfl⟩
     rw [GQ] at hr
     refine Al (Af ?_)
     unfold UC
     refine Bn ?_
     unfold QK
     refine AB (e_t h1) (by exact rfl) ?_
     refine Ap (e_t eh) ((Am rfl 0).trans rfl) (by exact rfl) ?_
     obtain ⟨v30, hc_v30, hr⟩ := bind_some hr
     refine AJ (Ar (e_t eh) AF AM) ?_
     refine H_s_RBlocks p0.Body hc_v30 ?_
     refine Ab (e_t eh) ?_
     refine Au eh hr (fun hr => ?_) (fun hr => ?_)
     rotate_left
     · refine Ag eh (Ag (em rfl eh) (Ag (Ac rfl eh) (Ao (e_t (Ac rfl (em rfl eh))) e_c (Aa ?_))))
       unfold Mo
       refine Ab (e_t eh) (Aa (Ae (AI ?_)))
       cases hr
       exact A7 (AG eh AH) (AN AF v_d) (Ay hwf) h
     refine Ai eh ?_
     refine AB (e_t (Ad rfl (em rfl h1))) (by exact rfl) ?_
     refine Ai (em rfl eh) ?_
     refine Ap (e_t eh) ((Am rfl 0).trans rfl) (by exact rfl) ?_
     refine Ai (Ac rfl eh) ?_
     obtain ⟨v31, hc_v31, hr⟩ := bind_some hr
     refine AJ (Ar (e_t eh) AF AM) ?_
     refine H_s_RBlocks p0.Else hc_v31 ?_
     refine An (e_t (Ac rfl (em rfl eh))) (e_t eh) (Aa ?_)
     unfold Mo
     refine Ab (e_t eh) (Aa (Ae (AI ?_)))
     cases hr
     exact A7 (AG eh AH) (AN AF v_d) (Ay hwf) h
   refine Al (Af ?_)
   unfold TA
   refine Ab e_c (Aa (Ae ?_))
   refine AT ?_
   refine BX (fun m f st' => ∃ (v27 : Int), CB p0 s_RBlocks n m v27 = some r ∧ f 1 = (.ptr (st.length + 0) 0) ∧ f 7 = (.d (.int .i64 (p0.Exprs.length : Int))) ∧ f 9 = (.d (.int .i64 v27)) ∧ st' = st ++ [(.box [(.d (.int .i64 p0.Op)), (.d (.str p0.Name)), (.d (.str p0.Src)), (.d (.int .i64 p0.N)), (.d (.sl (List.map rS p0.Cols))), (.d (.sl (List.map TE.row p0.Exprs))), (.d (.sl (List.map TS.row p0.Body))), (.d (.sl (List.map TS.row p0.Else)))]), .fresh, .fresh, .fresh, .fresh, .fresh, .fresh, .fresh, .fresh, .fresh, .fresh]) n (Ghost.refl _) ⟨(0 : Int), hr, (em rfl h1), (em rfl h7), eh, rfl⟩ ?_
   rintro m f st' ⟨v27, hr, h1, h7, h9, rfl⟩
   cases m with
   | zero => cases hr
   | succ m_0 =>
     rw [CB] at hr
     generalize hrec_0 : CB p0 s_RBlocks n m_0 = q0 at hr
     rw [G8] at hr
     unfold Uj
     refine Al (Al (Af ?_))
     unfold Tx
     refine Ab (e_t h9) (Ab (e_t (em rfl h7)) ?_)
     refine As (e_t (em rfl eh)) (e_t eh) (CM ?_)
     refine Aa (Ae ?_)
     refine AC (e_t eh) hr (fun hr => ?_) (fun hr => ?_)
     rotate_left
     · refine CG ?_
       refine AW ?_
       refine AW ?_
       refine DF ?_
       refine Ae ?_
       exact ⟨hr, (Ac rfl (em rfl h1)), rfl⟩
     refine AO (Ae (Al ?_))
     refine AT ?_
     refine Al (Af ?_)
     unfold UP
     refine AB (e_t (Ac rfl (em rfl h1))) (by exact rfl) ?_
     refine Ap (e_t eh) ((Am rfl 0).trans rfl) (by exact rfl) ?_
     refine Ab (e_t (Ad rfl (em rfl h9))) ?_
     refine Br (row := TE.row) (AP (e_t (em rfl eh)) Bt) (e_t eh) hr TE.row_eq (fun _ => rfl) (fun v28 hr => ?_)
     refine Dc (e_t eh) (Nat.le_of_ble_eq_true rfl) (by exact rfl) ?_
     obtain ⟨v29, hc_v29, hr⟩ := bind_some hr
     refine AJ (Ar (e_t eh) (Bx (Aq f_d (Aq f_d (Aq f_d (Aq f_d (Aq f_d (Aq f_d B3))))))) AM) ?_
     refine Ao9 n v28 hc_v29 ?_
     refine C2 (e_t eh) (Aa (Ae ?_))
     refine AC (e_t eh) hr (fun hr => ?_) (fun hr => ?_)
     rotate_left
     · refine AO ?_
       refine BB ?_
       refine Ae (Af ?_)
       unfold UU
       refine Ab (e_t (Ak rfl (Ac rfl h9))) ?_
       refine As (e_t eh) e_c (BU ?_)
       refine Ab (e_t eh) (Aa (Ae ?_))
       exact ⟨m_0, _, Nat.lt_succ_self m_0, Ghost.refl _, (IntKind.wrap .i64 (v27 + (1 : Int))), (by rw [hrec_0]; exact hr), (Ak rfl (Ad rfl (em rfl h1))), (Ak rfl (Ad rfl (em rfl h7))), eh, rfl⟩
     refine Al (Af ?_)
     unfold Tt
     refine Ab e_c (Aa (Ae (AI ?_)))
     refine BH ?_
     refine AA (AA ?_)
     refine BH ?_
     refine AA ?_
     cases hr
     exact A7 (AG eh AH) (AN AF v_d) (Ay hwf) h
 refine Al ?_
 refine HX (k := 7) rfl rfl ?_
 unfold Yc
 refine Ah (R := []) rfl rfl (Ab (e_t h4) (Aa ?_))
 obtain ⟨v11, hc_v11, hr⟩ := bind_some hr
 refine Gg (Ar (e_t eh) AF (Ar e_c AF AM)) (Cf (e_t eh) (by exact rfl) (Cf e_c (by exact rfl) FL)) (fun st2 => OG n v2 (99 : Int) hc_v11 ⟨rfl, rfl⟩) ?_
 refine Ah (R := []) rfl rfl (AB (e_t (Ac rfl h1)) (by exact rfl) (Aa ?_))
 refine Ah rfl (BL (e_t eh)) (Ap (e_t eh) ((Am rfl 0).trans rfl) (by exact rfl) (Aa ?_))
 refine Ah rfl (MU (e_t eh)) (Bh (row := rS) (AP (e_t eh) Bt) (Aa ?_))
 refine Ah (R := []) rfl rfl (As (e_t eh) e_c (C8 (Aa ?_)))
 refine Ah (R := []) rfl rfl (Aw3 (e_t (Ad rfl eh)) (e_t eh) (Aa ?_))
 refine Ah (R := []) rfl rfl (Ab (e_t eh) (Aa ?_))
 refine CK eh hr (fun hr => ?_) (fun hr => ?_)
 · refine Az eh (Az (em rfl eh) (Az (Ac rfl eh) (Az (Ac rfl (em rfl eh)) ?_)))
   refine Ah (R := []) rfl rfl (An (e_t (Ad rfl eh)) e_c (Aa ?_))
   refine Ah (R := []) rfl rfl (Ab (e_t eh) (Aa ?_))
   refine Az eh (Az (em rfl eh) (Az (Ac rfl eh) (Az (Ac rfl (em rfl eh)) ?_)))
   refine A3 eh ?_
   refine A3 (em rfl eh) ?_
   refine A3 (Ac rfl eh) ?_
   refine Az (Ad rfl (Ac rfl (em rfl eh))) ?_
   refine Ah (R := []) rfl rfl (An (e_t (Ad rfl (Ad rfl eh))) e_c (Aa ?_))
   refine Ah (R := []) rfl rfl (Ab (e_t eh) (Aa ?_))
   refine Az eh (Az (em rfl eh) (Az (Ac rfl eh) ?_))
   refine Ah (R := []) rfl rfl (An (e_t (Ac rfl (em rfl eh))) e_c (Aa ?_))
   refine Ah (R := []) rfl rfl (Ab (e_t eh) (Aa ?_))
   refine Az eh (Az (em rfl eh) (Az (Ac rfl eh) ?_))
   refine Ah (R := []) rfl rfl (An (e_t (Ac rfl (em rfl eh))) e_c (Aa ?_))
   refine Ah (R := []) rfl rfl (Ab (e_t eh) (Aa ?_))
   refine Az eh (Az (em rfl eh) (Az (Ac rfl eh) (Az (Ac rfl (em rfl eh)) ?_)))
   refine A3 eh ?_
   refine A3 (em rfl eh) ?_
   refine A3 (Ac rfl eh) ?_
   refine A3 (Ac rfl (em rfl eh)) ?_
   refine Az (Ad rfl (Ad rfl eh)) ?_
   refine Ah (R := []) rfl rfl (An (e_t (Ak rfl (em rfl eh))) e_c (Aa ?_))
   refine Ah (R := []) rfl rfl (Ab (e_t eh) (Aa ?_))
   refine Az eh (Az (em rfl eh) (Az (Ac rfl eh) (Az (Ac rfl (em rfl eh)) ?_)))
   refine A3 eh ?_
   refine A3 (em rfl eh) ?_
   refine A3 (Ac rfl eh) ?_
   refine A3 (Ac rfl (em rfl eh)) ?_
   refine Az (Ad rfl (Ad rfl eh)) ?_
   refine Ah (R := []) rfl rfl (An (e_t (Ak rfl (em rfl eh))) e_c (Aa ?_))
   refine BJ ?_
   refine ⟨by simp [B2, okPairs, BZ, Ga], ?_⟩
   refine Ae ?_
   refine Dy (e_t eh) ?_
   refine Al (Af ?_)
   unfold Di
   refine Ab e_c (Aa (Ae (AI (AA ?_))))
   cases hr
   exact A7 (AG eh AH) (AN AF v_d) (Ay hwf) h
 refine AZ eh ?_
 refine Ah (R := []) rfl rfl (AB (e_t (Ak rfl (em rfl h1))) (by exact rfl) (Aa ?_))
 refine AZ (em rfl eh) ?_
 refine Ah rfl (BL (e_t eh)) (Ap (e_t eh) ((Am rfl 0).trans rfl) (by exact rfl) (Aa ?_))
 refine AZ (Ac rfl eh) ?_
 refine Ah rfl (MU (e_t eh)) (Bh (row := rS) (AP (e_t eh) Bt) (Aa ?_))
 refine AZ (Ac rfl (em rfl eh)) ?_
 refine Ah (R := []) rfl rfl (As (e_t eh) e_c (C8 (Aa ?_)))
 refine Ah (R := []) rfl rfl (Ao (e_t (Ad rfl eh)) (e_t eh) (Aa ?_))
 refine Ah (R := []) rfl rfl (Ab (e_t eh) (Aa ?_))
 refine CK eh hr (fun hr => ?_) (fun hr => ?_)
 · refine Az eh (Az (em rfl eh) (Az (Ac rfl eh) (Az (Ac rfl (em rfl eh)) ?_)))
   refine A3 eh ?_
   refine A3 (em rfl eh) ?_
   refine A3 (Ac rfl eh) ?_
   refine Az (Ad rfl (Ac rfl (em rfl eh))) ?_
   refine Ah (R := []) rfl rfl (An (e_t (Ad rfl (Ad rfl eh))) e_c (Aa ?_))
   refine Ah (R := []) rfl rfl (Ab (e_t eh) (Aa ?_))
   refine Az eh (Az (em rfl eh) (Az (Ac rfl eh) ?_))
   refine Ah (R := []) rfl rfl (An (e_t (Ac rfl (em rfl eh))) e_c (Aa ?_))
   refine Ah (R := []) rfl rfl (Ab (e_t eh) (Aa ?_))
   refine Az eh (Az (em rfl eh) (Az (Ac rfl eh) ?_))
   refine Ah (R := []) rfl rfl (An (e_t (Ac rfl (em rfl eh))) e_c (Aa ?_))
   refine Ah (R := []) rfl rfl (Ab (e_t eh) (Aa ?_))
   refine Az eh (Az (em rfl eh) (Az (Ac rfl eh) (Az (Ac rfl (em rfl eh)) ?_)))
   refine A3 eh ?_
   refine A3 (em rfl eh) ?_
   refine A3 (Ac rfl eh) ?_
   refine A3 (Ac rfl (em rfl eh)) ?_
   refine Az (Ad rfl (Ad rfl eh)) ?_
   refine Ah (R := []) rfl rfl (An (e_t (Ak rfl (em rfl eh))) e_c (Aa ?_))
   refine Ah (R := []) rfl rfl (Ab (e_t eh) (Aa ?_))
   refine Az eh (Az (em rfl eh) (Az (Ac rfl eh) (Az (Ac rfl (em rfl eh)) ?_)))
   refine A3 eh ?_
   refine A3 (em rfl eh) ?_
   refine A3 (Ac rfl eh) ?_
   refine A3 (Ac rfl (em rfl eh)) ?_
   refine Az (Ad rfl (Ad rfl eh)) ?_
   refine Ah (R := []) rfl rfl (An (e_t (Ak rfl (em rfl eh))) e_c (Aa ?_))
   refine BJ ?_
   refine ⟨by simp [B2, okPairs, BZ, Ga], ?_⟩
   refine Ae ?_
   refine Dy (e_t eh) ?_
   refine Al (Af ?_)
   unfold Di
   refine Ab e_c (Aa (Ae (AI (AA ?_))))
   cases hr
   exact A7 (AG eh AH) (AN AF v_d) (Ay hwf) h
 refine AZ eh ?_
 refine Ah (R := []) rfl rfl (Ab (e_t (Ak rfl (Ad rfl (Ad rfl h4)))) (Aa ?_))
 refine AZ (em rfl eh) ?_
 obtain ⟨v12, hc_v12, hr⟩ := bind_some hr
 refine Gg (Ar (e_t eh) AF (Ar e_c AF AM)) (Cf (e_t eh) (by exact rfl) (Cf e_c (by exact rfl) FL)) (fun st2 => OG n v2 (78 : Int) hc_v12 ⟨rfl, rfl⟩) ?_
 refine AZ (Ac rfl eh) ?_
 refine Ah (R := []) rfl rfl (C2 (e_t eh) (Aa ?_))
 refine AZ (Ac rfl (em rfl eh)) ?_
 refine Ah (R := []) rfl rfl (Ab (e_t eh) (Aa ?_))
 refine CK eh hr (fun hr => ?_) (fun hr => ?_)
 rotate_left
 · refine Az eh (Az (em rfl eh) (Az (Ac rfl eh) (AZ (Ad rfl (Ad rfl eh)) ?_)))
   refine Ah (R := []) rfl rfl (Ao (e_t (Ac rfl (em rfl eh))) e_c (Aa ?_))
   refine Ah (R := []) rfl rfl (Ao (e_t (Ak rfl (em rfl eh))) (e_t eh) (Aa ?_))
   refine Ah (R := []) rfl rfl (Ab (e_t eh) (Aa ?_))
   refine AZ eh ?_
   refine Ah (R := []) rfl rfl (AB (e_t (Aj rfl (Ak rfl (Ac rfl (em rfl h1))))) (by exact rfl) (Aa ?_))
   refine AZ (em rfl eh) ?_
   refine Ah rfl (BL (e_t eh)) (Ap (e_t eh) ((Am rfl 0).trans rfl) (by exact rfl) (Aa ?_))
   refine AZ (Ac rfl eh) ?_
   refine Ah (R := []) rfl rfl (As (e_t eh) e_c (CM (Aa ?_)))
   refine Ah (R := []) rfl rfl (Ao (e_t (Ac rfl (em rfl eh))) (e_t eh) (Aa ?_))
   refine Ah (R := []) rfl rfl (Ab (e_t eh) (Aa ?_))
   refine CK eh hr (fun hr => ?_) (fun hr => ?_)
   · refine Az eh (Az (em rfl eh) (Az (Ac rfl eh) ?_))
     refine Ah (R := []) rfl rfl (An (e_t (Ac rfl (em rfl eh))) e_c (Aa ?_))
     refine Ah (R := []) rfl rfl (Ab (e_t eh) (Aa ?_))
     refine Az eh (Az (em rfl eh) (Az (Ac rfl eh) (Az (Ac rfl (em rfl eh)) ?_)))
     refine A3 eh ?_
     refine A3 (em rfl eh) ?_
     refine A3 (Ac rfl eh) ?_
     refine A3 (Ac rfl (em rfl eh)) ?_
     refine Az (Ad rfl (Ad rfl eh)) ?_
     refine Ah (R := []) rfl rfl (An (e_t (Ak rfl (em rfl eh))) e_c (Aa ?_))
     refine Ah (R := []) rfl rfl (Ab (e_t eh) (Aa ?_))
     refine Az eh (Az (em rfl eh) (Az (Ac rfl eh) (Az (Ac rfl (em rfl eh)) ?_)))
     refine A3 eh ?_
     refine A3 (em rfl eh) ?_
     refine A3 (Ac rfl eh) ?_
     refine A3 (Ac rfl (em rfl eh)) ?_
     refine Az (Ad rfl (Ad rfl eh)) ?_
     refine Ah (R := []) rfl rfl (An (e_t (Ak rfl (em rfl eh))) e_c (Aa ?_))
     refine BJ ?_
     refine ⟨by simp [B2, okPairs, BZ, Ga], ?_⟩
     refine Ae ?_
     refine Dy (e_t eh) ?_
     refine Al (Af ?_)
     unfold Di
     refine Ab e_c (Aa (Ae (AI (AA ?_))))
     cases hr
     exact A7 (AG eh AH) (AN AF v_d) (Ay hwf) h
   refine AZ eh ?_
   refine Ah (R := []) rfl rfl (AB (e_t (Aj rfl (Aj rfl (em rfl h1)))) (by exact rfl) (Aa ?_))
   refine AZ (em rfl eh) ?_
   refine Ah rfl (BL (e_t eh)) (Ap (e_t eh) ((Am rfl 0).trans rfl) (by exact rfl) (Aa ?_))
   refine AZ (Ac rfl eh) ?_
   refine Ah (R := []) rfl rfl (As (e_t eh) e_c (C8 (Aa ?_)))
   refine Ah (R := []) rfl rfl (Ao (e_t (Ac rfl (em rfl eh))) (e_t eh) (Aa ?_))
   refine Ah (R := []) rfl rfl (Ab (e_t eh) (Aa ?_))
   refine CK eh hr (fun hr => ?_) (fun hr => ?_)
   · refine Az eh (Az (em rfl eh) (Az (Ac rfl eh) (Az (Ac rfl (em rfl eh)) ?_)))
     refine A3 eh ?_
     refine A3 (em rfl eh) ?_
     refine A3 (Ac rfl eh) ?_
     refine A3 (Ac rfl (em rfl eh)) ?_
     refine Az (Ad rfl (Ad rfl eh)) ?_
     refine Ah (R := []) rfl rfl (An (e_t (Ak rfl (em rfl eh))) e_c (Aa ?_))
     refine Ah (R := []) rfl rfl (Ab (e_t eh) (Aa ?_))
     refine Az eh (Az (em rfl eh) (Az (Ac rfl eh) (Az (Ac rfl (em rfl eh)) ?_)))
     refine A3 eh ?_
     refine A3 (em rfl eh) ?_
     refine A3 (Ac rfl eh) ?_
     refine A3 (Ac rfl (em rfl eh)) ?_
     refine Az (Ad rfl (Ad rfl eh)) ?_
     refine Ah (R := []) rfl rfl (An (e_t (Ak rfl (em rfl eh))) e_c (Aa ?_))
     refine BJ ?_
     refine ⟨by simp [B2, okPairs, BZ, Ga], ?_⟩
     refine Ae ?_
     refine Dy (e_t eh) ?_
     refine Al (Af ?_)
     unfold Di
     refine Ab e_c (Aa (Ae (AI (AA ?_))))
     cases hr
     exact A7 (AG eh AH) (AN AF v_d) (Ay hwf) h
   refine AZ eh ?_
   refine Ah (R := []) rfl rfl (Ab (e_t (Aj rfl (Aj rfl (Ad rfl (Ac rfl (em rfl h4)))))) (Aa ?_))
   refine AZ (em rfl eh) ?_
   obtain ⟨v16, hc_v16, hr⟩ := bind_some hr
   refine Gg (Ar (e_t eh) AF (Ar e_c AF AM)) (Cf (e_t eh) (by exact rfl) (Cf e_c (by exact rfl) FL)) (fun st2 => OG n v2 (98 : Int) hc_v16 ⟨rfl, rfl⟩) ?_
   refine AZ (Ac rfl eh) ?_
   refine Ah (R := []) rfl rfl (C2 (e_t eh) (Aa ?_))
   refine AZ (Ac rfl (em rfl eh)) ?_
   refine Ah (R := []) rfl rfl (Ab (e_t eh) (Aa ?_))
   refine CK eh hr (fun hr => ?_) (fun hr => ?_)
   rotate_left
   · refine Az eh (Az (em rfl eh) (Az (Ac rfl eh) (Az (Ac rfl (em rfl eh)) (AZ (Ak rfl (em rfl eh)) ?_))))
     refine Ah (R := []) rfl rfl (Ao (e_t (Ad rfl eh)) e_c (Aa ?_))
     refine Ah (R := []) rfl rfl (Ao (e_t (Ak rfl (Ac rfl eh))) (e_t eh) (Aa ?_))
     refine Ah (R := []) rfl rfl (Ab (e_t eh) (Aa ?_))
     refine AZ eh ?_
     refine Ah (R := []) rfl rfl (Ab (e_t (Aj rfl (Aj rfl (Aj rfl (Ac rfl (em rfl h4)))))) (Aa ?_))
     refine AZ (em rfl eh) ?_
     obtain ⟨v18, hc_v18, hr⟩ := bind_some hr
     refine Gg (Ar (e_t eh) AF (Ar e_c AF AM)) (Cf (e_t eh) (by exact rfl) (Cf e_c (by exact rfl) FL)) (fun st2 => OG n v2 (101 : Int) hc_v18 ⟨rfl, rfl⟩) ?_
     refine AZ (Ac rfl eh) ?_
     refine Ah (R := []) rfl rfl (C2 (e_t eh) (Aa ?_))
     refine AZ (Ac rfl (em rfl eh)) ?_
     refine Ah (R := []) rfl rfl (Ab (e_t eh) (Aa ?_))
     refine CK eh hr (fun hr => ?_) (fun hr => ?_)
     rotate_left
     · refine Az eh (Az (em rfl eh) (Az (Ac rfl eh) (Az (Ac rfl (em rfl eh)) (AZ (Ak rfl (em rfl eh)) ?_))))
       refine Ah (R := []) rfl rfl (Ao (e_t (Ad rfl eh)) e_c (Aa ?_))
       refine Ah (R := []) rfl rfl (Ao (e_t (Ak rfl (Ac rfl eh))) (e_t eh) (Aa ?_))
       refine BJ ?_
       refine ⟨by simp [B2, okPairs, BZ, Ga], ?_⟩
       refine Ae ?_
       refine EZ (e_t eh) ?_
       refine AO (Ae ?_)
       exact ⟨hr, (Aj rfl (Aj rfl (Aj rfl (Ak rfl (Ad rfl (Ac rfl h1)))))), rfl⟩
     refine AZ eh ?_
     refine Ah (R := []) rfl rfl (AB (e_t (Aj rfl (Aj rfl (Aj rfl (Ad rfl (Ad rfl h1)))))) (by exact rfl) (Aa ?_))
     refine AZ (em rfl eh) ?_
     refine Ah rfl (BL (e_t eh)) (Ap (e_t eh) ((Am rfl 0).trans rfl) (by exact rfl) (Aa ?_))
     refine AZ (Ac rfl eh) ?_
     refine Ah rfl (MU (e_t eh)) (Bh (row := TS.row) (AP (e_t eh) Bt) (Aa ?_))
     refine AZ (Ac rfl (em rfl eh)) ?_
     refine Ah (R := []) rfl rfl (As (e_t eh) e_c (C8 (Aa ?_)))
     refine AZ (Ak rfl (em rfl eh)) ?_
     refine Ah (R := []) rfl rfl (An (e_t (Ad rfl eh)) (e_t eh) (Aa ?_))
     refine Ah (R := []) rfl rfl (Ao (e_t (Ak rfl (Ac rfl eh))) (e_t eh) (Aa ?_))
     refine BJ ?_
     refine ⟨by simp [B2, okPairs, BZ, Ga], ?_⟩
     refine Ae ?_
     refine AC (e_t eh) hr (fun hr => ?_) (fun hr => ?_)
     rotate_left
     · refine AO (Ae ?_)
       exact ⟨hr, (Aj rfl (Aj rfl (Aj rfl (Ak rfl (Ad rfl (Ac rfl h1)))))), rfl⟩
     refine Al (Af ?_)
     unfold Di
     refine Ab e_c (Aa (Ae (AI (AA ?_))))
     cases hr
     exact A7 (AG eh AH) (AN AF v_d) (Ay hwf) h
   refine AZ eh ?_
   refine Ah (R := []) rfl rfl (AB (e_t (Aj rfl (Aj rfl (Ak rfl (Ad rfl h1))))) (by exact rfl) (Aa ?_))
   refine AZ (em rfl eh) ?_
   refine Ah rfl (BL (e_t eh)) (Ap (e_t eh) ((Am rfl 0).trans rfl) (by exact rfl) (Aa ?_))
   refine AZ (Ac rfl eh) ?_
   refine Ah rfl (MU (e_t eh)) (Bh (row := TS.row) (AP (e_t eh) Bt) (Aa ?_))
   refine AZ (Ac rfl (em rfl eh)) ?_
   refine Ah (R := []) rfl rfl (As (e_t eh) e_c (C8 (Aa ?_)))
   refine AZ (Ak rfl (em rfl eh)) ?_
   refine Ah (R := []) rfl rfl (An (e_t (Ad rfl eh)) (e_t eh) (Aa ?_))
   refine Ah (R := []) rfl rfl (Ao (e_t (Ak rfl (Ac rfl eh))) (e_t eh) (Aa ?_))
   refine Ah (R := []) rfl rfl (Ab (e_t eh) (Aa ?_))
   refine CK eh hr (fun hr => ?_) (fun hr => ?_)
   · refine Az eh (Az (em rfl eh) (Az (Ac rfl eh) (Az (Ac rfl (em rfl eh)) ?_)))
     refine A3 eh ?_
     refine A3 (em rfl eh) ?_
     refine A3 (Ac rfl eh) ?_
     refine A3 (Ac rfl (em rfl eh)) ?_
     refine Az (Ad rfl (Ad rfl eh)) ?_
     refine Ah (R := []) rfl rfl (An (e_t (Ak rfl (em rfl eh))) e_c (Aa ?_))
     refine BJ ?_
     refine ⟨by simp [B2, okPairs, BZ, Ga], ?_⟩
     refine Ae ?_
     refine Dy (e_t eh) ?_
     refine Al (Af ?_)
     unfold Di
     refine Ab e_c (Aa (Ae (AI (AA ?_))))
     cases hr
     exact A7 (AG eh AH) (AN AF v_d) (Ay hwf) h
   refine AZ eh ?_
   refine Ah (R := []) rfl rfl (Ab (e_t (Aj rfl (Aj rfl (Aj rfl (Ad rfl h4))))) (Aa ?_))
   refine AZ (em rfl eh) ?_
   obtain ⟨v17, hc_v17, hr⟩ := bind_some hr
   refine Gg (Ar (e_t eh) AF (Ar e_c AF AM)) (Cf (e_t eh) (by exact rfl) (Cf e_c (by exact rfl) FL)) (fun st2 => OG n v2 (101 : Int) hc_v17 ⟨rfl, rfl⟩) ?_
   refine AZ (Ac rfl eh) ?_
   refine Ah (R := []) rfl rfl (C2 (e_t eh) (Aa ?_))
   refine AZ (Ac rfl (em rfl eh)) ?_
   refine Ah (R := []) rfl rfl (Ab (e_t eh) (Aa ?_))
   refine CK eh hr (fun hr => ?_) (fun hr => ?_)
   rotate_left
   · refine Az eh (Az (em rfl eh) (Az (Ac rfl eh) (Az (Ac rfl (em rfl eh)) (AZ (Ak rfl (em rfl eh)) ?_))))
     refine Ah (R := []) rfl rfl (Ao (e_t (Ad rfl eh)) e_c (Aa ?_))
     refine Ah (R := []) rfl rfl (Ao (e_t (Ak rfl (Ac rfl eh))) (e_t eh) (Aa ?_))
     refine BJ ?_
     refine ⟨by simp [B2, okPairs, BZ, Ga], ?_⟩
     refine Ae ?_
     refine EZ (e_t eh) ?_
     refine AO (Ae ?_)
     exact ⟨hr, (Aj rfl (Aj rfl (Aj rfl (Ak rfl (Ad rfl (Ac rfl (em rfl h1))))))), rfl⟩
   refine AZ eh ?_
   refine Ah (R := []) rfl rfl (AB (e_t (Aj rfl (Aj rfl (Aj rfl (Ak rfl (em rfl h1)))))) (by exact rfl) (Aa ?_))
   refine AZ (em rfl eh) ?_
   refine Ah rfl (BL (e_t eh)) (Ap (e_t eh) ((Am rfl 0).trans rfl) (by exact rfl) (Aa ?_))
   refine AZ (Ac rfl eh) ?_
   refine Ah rfl (MU (e_t eh)) (Bh (row := TS.row) (AP (e_t eh) Bt) (Aa ?_))
   refine AZ (Ac rfl (em rfl eh)) ?_
   refine Ah (R := []) rfl rfl (As (e_t eh) e_c (C8 (Aa ?_)))
   refine AZ (Ak rfl (em rfl eh)) ?_
   refine Ah (R := []) rfl rfl (An (e_t (Ad rfl eh)) (e_t eh) (Aa ?_))
   refine Ah (R := []) rfl rfl (Ao (e_t (Ak rfl (Ac rfl eh))) (e_t eh) (Aa ?_))
   refine BJ ?_
   refine ⟨by simp [B2, okPairs, BZ, Ga], ?_⟩
   refine Ae ?_
   refine AC (e_t eh) hr (fun hr => ?_) (fun hr => ?_)
   rotate_left
   · refine AO (Ae ?_)
     exact ⟨hr, (Aj rfl (Aj rfl (Aj rfl (Ak rfl (Ad rfl (Ac rfl (em rfl h1))))))), rfl⟩
   refine Al (Af ?_)
   unfold Di
   refine Ab e_c (Aa (Ae (AI (AA ?_))))
   cases hr
   exact A7 (AG eh AH) (AN AF v_d) (Ay hwf) h
 refine AZ eh ?_
 refine Ah (R := []) rfl rfl (AB (e_t (Aj rfl (Ad rfl (em rfl h1)))) (by exact rfl) (Aa ?_))
 refine AZ (em rfl eh) ?_
 refine Ah rfl (BL (e_t eh)) (Ap (e_t eh) ((Am rfl 0).trans rfl) (by exact rfl) (Aa ?_))
 refine AZ (Ac rfl eh) ?_
 refine Ah (R := []) rfl rfl (As (e_t eh) e_c (SP (Aa ?_)))
 refine AZ (Ad rfl (Ad rfl eh)) ?_
 refine Ah (R := []) rfl rfl (An (e_t (Ac rfl (em rfl eh))) (e_t eh) (Aa ?_))
 refine Ah (R := []) rfl rfl (Ao (e_t (Ak rfl (em rfl eh))) (e_t eh) (Aa ?_))
 refine Ah (R := []) rfl rfl (Ab (e_t eh) (Aa ?_))
 refine CK eh hr (fun hr => ?_) (fun hr => ?_)
 · refine Az eh (Az (em rfl eh) (Az (Ac rfl eh) ?_))
   refine Ah (R := []) rfl rfl (An (e_t (Ac rfl (em rfl eh))) e_c (Aa ?_))
   refine Ah (R := []) rfl rfl (Ab (e_t eh) (Aa ?_))
   refine Az eh (Az (em rfl eh) (Az (Ac rfl eh) ?_))
   refine Ah (R := []) rfl rfl (An (e_t (Ac rfl (em rfl eh))) e_c (Aa ?_))
   refine Ah (R := []) rfl rfl (Ab (e_t eh) (Aa ?_))
   refine Az eh (Az (em rfl eh) (Az (Ac rfl eh) (Az (Ac rfl (em rfl eh)) ?_)))
   refine A3 eh ?_
   refine A3 (em rfl eh) ?_
   refine A3 (Ac rfl eh) ?_
   refine A3 (Ac rfl (em rfl eh)) ?_
   refine Az (Ad rfl (Ad rfl eh)) ?_
   refine Ah (R := []) rfl rfl (An (e_t (Ak rfl (em rfl eh))) e_c (Aa ?_))
   refine Ah (R := []) rfl rfl (Ab (e_t eh) (Aa ?_))
   refine Az eh (Az (em rfl eh) (Az (Ac rfl eh) (Az (Ac rfl (em rfl eh)) ?_)))
   refine A3 eh ?_
   refine A3 (em rfl eh) ?_
   refine A3 (Ac rfl eh) ?_
   refine A3 (Ac rfl (em rfl eh)) ?_
   refine Az (Ad rfl (Ad rfl eh)) ?_
   refine Ah (R := []) rfl rfl (An (e_t (Ak rfl (em rfl eh))) e_c (Aa ?_))
   refine BJ ?_
   refine ⟨by simp [B2, okPairs, BZ, Ga], ?_⟩
   refine Ae ?_
   refine Dy (e_t eh) ?_
   refine Al (Af ?_)
   unfold Di
   refine Ab e_c (Aa (Ae (AI (AA ?_))))
   cases hr
   exact A7 (AG eh AH) (AN AF v_d) (Ay hwf) h
 refine AZ eh ?_
 refine Ah (R := []) rfl rfl (AB (e_t (Aj rfl (Ak rfl (Ad rfl h1)))) (by exact rfl) (Aa ?_))
 refine AZ (em rfl eh) ?_
 refine Ah rfl (BL (e_t eh)) (Ap (e_t eh) ((Am rfl 0).trans rfl) (by exact rfl) (Aa ?_))
 refine AZ (Ac rfl eh) ?_
 refine Ah (R := []) rfl rfl (As (e_t eh) e_c (CM (Aa ?_)))
 refine Ah (R := []) rfl rfl (Ao (e_t (Ac rfl (em rfl eh))) (e_t eh) (Aa ?_))
 refine Ah (R := []) rfl rfl (Ab (e_t eh) (Aa ?_))
 refine CK eh hr (fun hr => ?_) (fun hr => ?_)
 · refine Az eh (Az (em rfl eh) (Az (Ac rfl eh) ?_))
   refine Ah (R := []) rfl rfl (An (e_t (Ac rfl (em rfl eh))) e_c (Aa ?_))
   refine Ah (R := []) rfl rfl (Ab (e_t eh) (Aa ?_))
   refine Az eh (Az (em rfl eh) (Az (Ac rfl eh) (Az (Ac rfl (em rfl eh)) ?_)))
   refine A3 eh ?_
   refine A3 (em rfl eh) ?_
   refine A3 (Ac rfl eh) ?_
   refine A3 (Ac rfl (em rfl eh)) ?_
   refine Az (Ad rfl (Ad rfl eh)) ?_
   refine Ah (R := []) rfl rfl (An (e_t (Ak rfl (em rfl eh))) e_c (Aa ?_))
   refine Ah (R := []) rfl rfl (Ab (e_t eh) (Aa ?_))
   refine Az eh (Az (em rfl eh) (Az (Ac rfl eh) (Az (Ac rfl (em rfl eh)) ?_)))
   refine A3 eh ?_
   refine A3 (em rfl eh) ?_
   refine A3 (Ac rfl eh) ?_
   refine A3 (Ac rfl (em rfl eh)) ?_
   refine Az (Ad rfl (Ad rfl eh)) ?_
   refine Ah (R := []) rfl rfl (An (e_t (Ak rfl (em rfl eh))) e_c (Aa ?_))
   refine BJ ?_
   refine ⟨by simp [B2, okPairs, BZ, Ga], ?_⟩
   refine Ae ?_
   refine Dy (e_t eh) ?_
   refine Al (Af ?_)
   unfold Di
   refine Ab e_c (Aa (Ae (AI (AA ?_))))
   cases hr
   exact A7 (AG eh AH) (AN AF v_d) (Ay hwf) h
 refine AZ eh ?_
 refine Ah (R := []) rfl rfl (AB (e_t (Aj rfl (Aj rfl (Ac rfl h1)))) (by exact rfl) (Aa ?_))
 refine AZ (em rfl eh) ?_
 refine Ah rfl (BL (e_t eh)) (Ap (e_t eh) ((Am rfl 0).trans rfl) (by exact rfl) (Aa ?_))
 refine AZ (Ac rfl eh) ?_
 refine Ah (R := []) rfl rfl (As (e_t eh) e_c (C8 (Aa ?_)))
 refine Ah (R := []) rfl rfl (Ao (e_t (Ac rfl (em rfl eh))) (e_t eh) (Aa ?_))
 refine Ah (R := []) rfl rfl (Ab (e_t eh) (Aa ?_))
 refine CK eh hr (fun hr => ?_) (fun hr => ?_)
 · refine Az eh (Az (em rfl eh) (Az (Ac rfl eh) (Az (Ac rfl (em rfl eh)) ?_)))
   refine A3 eh ?_
   refine A3 (em rfl eh) ?_
   refine A3 (Ac rfl eh) ?_
   refine A3 (Ac rfl (em rfl eh)) ?_
   refine Az (Ad rfl (Ad rfl eh)) ?_
   refine Ah (R := []) rfl rfl (An (e_t (Ak rfl (em rfl eh))) e_c (Aa ?_))
   refine Ah (R := []) rfl rfl (Ab (e_t eh) (Aa ?_))
   refine Az eh (Az (em rfl eh) (Az (Ac rfl eh) (Az (Ac rfl (em rfl eh)) ?_)))
   refine A3 eh ?_
   refine A3 (em rfl eh) ?_
   refine A3 (Ac rfl eh) ?_
   refine A3 (Ac rfl (em rfl eh)) ?_
   refine Az (Ad rfl (Ad rfl eh)) ?_
   refine Ah (R := []) rfl rfl (An (e_t (Ak rfl (em rfl eh))) e_c (Aa ?_))
   refine BJ ?_
   refine ⟨by simp [B2, okPairs, BZ, Ga], ?_⟩
   refine Ae ?_
   refine Dy (e_t eh) ?_
   refine Al (Af ?_)
   unfold Di
   refine Ab e_c (Aa (Ae (AI (AA ?_))))
   cases hr
   exact A7 (AG eh AH) (AN AF v_d) (Ay hwf) h
 refine AZ eh ?_
 refine Ah (R := []) rfl rfl (Ab (e_t (Aj rfl (Aj rfl (Ad rfl (Ad rfl h4))))) (Aa ?_))
 refine AZ (em rfl eh) ?_
 obtain ⟨v13, hc_v13, hr⟩ := bind_some hr
 refine Gg (Ar (e_t eh) AF (Ar e_c AF AM)) (Cf (e_t eh) (by exact rfl) (Cf e_c (by exact rfl) FL)) (fun st2 => OG n v2 (98 : Int) hc_v13 ⟨rfl, rfl⟩) ?_
 refine AZ (Ac rfl eh) ?_
 refine Ah (R := []) rfl rfl (C2 (e_t eh) (Aa ?_))
 refine AZ (Ac rfl (em rfl eh)) ?_
 refine Ah (R := []) rfl rfl (Ab (e_t eh) (Aa ?_))
 refine CK eh hr (fun hr => ?_) (fun hr => ?_)
 rotate_left
 · refine Az eh (Az (em rfl eh) (Az (Ac rfl eh) (Az (Ac rfl (em rfl eh)) (AZ (Ak rfl (em rfl eh)) ?_))))
   refine Ah (R := []) rfl rfl (Ao (e_t (Ad rfl eh)) e_c (Aa ?_))
   refine Ah (R := []) rfl rfl (Ao (e_t (Ak rfl (Ac rfl eh))) (e_t eh) (Aa ?_))
   refine Ah (R := []) rfl rfl (Ab (e_t eh) (Aa ?_))
   refine AZ eh ?_
   refine Ah (R := []) rfl rfl (Ab (e_t (Aj rfl (Aj rfl (Aj rfl (Ad rfl h4))))) (Aa ?_))
   refine AZ (em rfl eh) ?_
   obtain ⟨v15, hc_v15, hr⟩ := bind_some hr
   refine Gg (Ar (e_t eh) AF (Ar e_c AF AM)) (Cf (e_t eh) (by exact rfl) (Cf e_c (by exact rfl) FL)) (fun st2 => OG n v2 (101 : Int) hc_v15 ⟨rfl, rfl⟩) ?_
   refine AZ (Ac rfl eh) ?_
   refine Ah (R := []) rfl rfl (C2 (e_t eh) (Aa ?_))
   refine AZ (Ac rfl (em rfl eh)) ?_
   refine Ah (R := []) rfl rfl (Ab (e_t eh) (Aa ?_))
   refine CK eh hr (fun hr => ?_) (fun hr => ?_)
   rotate_left
   · refine Az eh (Az (em rfl eh) (Az (Ac rfl eh) (Az (Ac rfl (em rfl eh)) (AZ (Ak rfl (em rfl eh)) ?_))))
     refine Ah (R := []) rfl rfl (Ao (e_t (Ad rfl eh)) e_c (Aa ?_))
     refine Ah (R := []) rfl rfl (Ao (e_t (Ak rfl (Ac rfl eh))) (e_t eh) (Aa ?_))
     refine BJ ?_
     refine ⟨by simp [B2, okPairs, BZ, Ga], ?_⟩
     refine Ae ?_
     refine EZ (e_t eh) ?_
     refine AO (Ae ?_)
     exact ⟨hr, (Aj rfl (Aj rfl (Aj rfl (Ak rfl (Ad rfl (Ac rfl (em rfl h1))))))), rfl⟩
   refine AZ eh ?_
   refine Ah (R := []) rfl rfl (AB (e_t (Aj rfl (Aj rfl (Aj rfl (Ak rfl (em rfl h1)))))) (by exact rfl) (Aa ?_))
   refine AZ (em rfl eh) ?_
   refine Ah rfl (BL (e_t eh)) (Ap (e_t eh) ((Am rfl 0).trans rfl) (by exact rfl) (Aa ?_))
   refine AZ (Ac rfl eh) ?_
   refine Ah rfl (MU (e_t eh)) (Bh (row := TS.row) (AP (e_t eh) Bt) (Aa ?_))
   refine AZ (Ac rfl (em rfl eh)) ?_
   refine Ah (R := []) rfl rfl (As (e_t eh) e_c (C8 (Aa ?_)))
   refine AZ (Ak rfl (em rfl eh)) ?_
   refine Ah (R := []) rfl rfl (An (e_t (Ad rfl eh)) (e_t eh) (Aa ?_))
   refine Ah (R := []) rfl rfl (Ao (e_t (Ak rfl (Ac rfl eh))) (e_t eh) (Aa ?_))
   refine BJ ?_
   refine ⟨by simp [B2, okPairs, BZ, Ga], ?_⟩
   refine Ae ?_
   refine AC (e_t eh) hr (fun hr => ?_) (fun hr => ?_)
   rotate_left
   · refine AO (Ae ?_)
     exact ⟨hr, (Aj rfl (Aj rfl (Aj rfl (Ak rfl (Ad rfl (Ac rfl (em rfl h1))))))), rfl⟩
   refine Al (Af ?_)
   unfold Di
   refine Ab e_c (Aa (Ae (AI (AA ?_))))
   cases hr
   exact A7 (AG eh AH) (AN AF v_d) (Ay hwf) h
 refine AZ eh ?_
 refine Ah (R := []) rfl rfl (AB (e_t (Aj rfl (Aj rfl (Ak rfl (Ad rfl (em rfl h1)))))) (by exact rfl) (Aa ?_))
 refine AZ (em rfl eh) ?_
 refine Ah rfl (BL (e_t eh)) (Ap (e_t eh) ((Am rfl 0).trans rfl) (by exact rfl) (Aa ?_))
 refine AZ (Ac rfl eh) ?_
 refine Ah rfl (MU (e_t eh)) (Bh (row := TS.row) (AP (e_t eh) Bt) (Aa ?_))
 refine AZ (Ac rfl (em rfl eh)) ?_
 refine Ah (R := []) rfl rfl (As (e_t eh) e_c (C8 (Aa ?_)))
 refine AZ (Ak rfl (em rfl eh)) ?_
 refine Ah (R := []) rfl rfl (An (e_t (Ad rfl eh)) (e_t eh) (Aa ?_))
 refine Ah (R := []) rfl rfl (Ao (e_t (Ak rfl (Ac rfl eh))) (e_t eh) (Aa ?_))
 refine Ah (R := []) rfl rfl (Ab (e_t eh) (Aa ?_))
 refine CK eh hr (fun hr => ?_) (fun hr => ?_)
 · refine Az eh (Az (em rfl eh) (Az (Ac rfl eh) (Az (Ac rfl (em rfl eh)) ?_)))
   refine A3 eh ?_
   refine A3 (em rfl eh) ?_
   refine A3 (Ac rfl eh) ?_
   refine A3 (Ac rfl (em rfl eh)) ?_
   refine Az (Ad rfl (Ad rfl eh)) ?_
   refine Ah (R := []) rfl rfl (An (e_t (Ak rfl (em rfl eh))) e_c (Aa ?_))
   refine BJ ?_
   refine ⟨by simp [B2, okPairs, BZ, Ga], ?_⟩
   refine Ae ?_
   refine Dy (e_t eh) ?_
   refine Al (Af ?_)
   unfold Di
   refine Ab e_c (Aa (Ae (AI (AA ?_))))
   cases hr
   exact A7 (AG eh AH) (AN AF v_d) (Ay hwf) h
 refine AZ eh ?_
 refine Ah (R := []) rfl rfl (Ab (e_t (Aj rfl (Aj rfl (Aj rfl (Ad rfl (em rfl h4)))))) (Aa ?_))
 refine AZ (em rfl eh) ?_
 obtain ⟨v14, hc_v14, hr⟩ := bind_some hr
 refine Gg (Ar (e_t eh) AF (Ar e_c AF AM)) (Cf (e_t eh) (by exact rfl) (Cf e_c (by exact rfl) FL)) (fun st2 => OG n v2 (101 : Int) hc_v14 ⟨rfl, rfl⟩) ?_
 refine AZ (Ac rfl eh) ?_
 refine Ah (R := []) rfl rfl (C2 (e_t eh) (Aa ?_))
 refine AZ (Ac rfl (em rfl eh)) ?_
 refine Ah (R := []) rfl rfl (Ab (e_t eh) (Aa ?_))
 refine CK eh hr (fun hr => ?_) (fun hr => ?_)
 rotate_left
 · refine Az eh (Az (em rfl eh) (Az (Ac rfl eh) (Az (Ac rfl (em rfl eh)) (AZ (Ak rfl (em rfl eh)) ?_))))
   refine Ah (R := []) rfl rfl (Ao (e_t (Ad rfl eh)) e_c (Aa ?_))
   refine Ah (R := []) rfl rfl (Ao (e_t (Ak rfl (Ac rfl eh))) (e_t eh) (Aa ?_))
   refine BJ ?_
   refine ⟨by simp [B2, okPairs, BZ, Ga], ?_⟩
   refine Ae ?_
   refine EZ (e_t eh) ?_
   refine AO (Ae ?_)
   exact ⟨hr, (Aj rfl (Aj rfl (Aj rfl (Ak rfl (Ad rfl (Ad rfl h1)))))), rfl⟩
 refine AZ eh ?_
 refine Ah (R := []) rfl rfl (AB (e_t (Aj rfl (Aj rfl (Aj rfl (Ak rfl (Ac rfl h1)))))) (by exact rfl) (Aa ?_))
 refine AZ (em rfl eh) ?_
 refine Ah rfl (BL (e_t eh)) (Ap (e_t eh) ((Am rfl 0).trans rfl) (by exact rfl) (Aa ?_))
 refine AZ (Ac rfl eh) ?_
 refine Ah rfl (MU (e_t eh)) (Bh (row := TS.row) (AP (e_t eh) Bt) (Aa ?_))
 refine AZ (Ac rfl (em rfl eh)) ?_
 refine Ah (R := []) rfl rfl (As (e_t eh) e_c (C8 (Aa ?_)))
 refine AZ (Ak rfl (em rfl eh)) ?_
 refine Ah (R := []) rfl rfl (An (e_t (Ad rfl eh)) (e_t eh) (Aa ?_))
 refine Ah (R := []) rfl rfl (Ao (e_t (Ak rfl (Ac rfl eh))) (e_t eh) (Aa ?_))
 refine BJ ?_
 refine ⟨by simp [B2, okPairs, BZ, Ga], ?_⟩
 refine Ae ?_
 refine AC (e_t eh) hr (fun hr => ?_) (fun hr => ?_)
 rotate_left
 · refine AO (Ae ?_)
   exact ⟨hr, (Aj rfl (Aj rfl (Aj rfl (Ak rfl (Ad rfl (Ad rfl h1)))))), rfl⟩
 refine Al (Af ?_)
 unfold Di
 refine Ab e_c (Aa (Ae (AI (AA ?_))))
 cases hr
 exact A7 (AG eh AH) (AN AF v_d) (Ay hwf) h
def Gd (p0 : (List TS)) (s_RBuilt : TS → Option Bool) (q0 : Int → Option Bool) (v1 : Int) : Option Bool :=
 (bif (decide (v1 < (p0.length : Int))) then ((Dd p0 v1).bind fun v2 => ((s_RBuilt v2).bind fun v3 => (bif (!v3) then some false else q0 (IntKind.wrap .i64 (v1 + (1 : Int)))))) else some true)
def Ca (p0 : (List TS)) (s_RBuilt : TS → Option Bool) : Nat → Int → Option Bool
 | 0, _ => none
 | m + 1, v1 => Gd p0 s_RBuilt (Ca p0 s_RBuilt m) v1
def HT (s_RBuilt : TS → Option Bool) (s_RBlocks : (List TS) → Option Bool) (n : Nat) (p0 : (List TS)) : Option Bool :=
 (Ca p0 s_RBuilt n (0 : Int))
set_option maxRecDepth 100000 in
set_option maxHeartbeats 4000000 in
theorem AA8 (s_RBuilt : TS → Option Bool) (s_RBlocks : (List TS) → Option Bool) (n : Nat) (p0 : (List TS)) (H_s_RBuilt : ∀ (p0 : TS) {r : Bool}, s_RBuilt p0 = some r → ∀ {st : List Content} {K : PV → List Content → Prop} (h : K (.d (.bool r)) st), Av PR NL [(.agg [(.d (.int .i64 p0.Op)), (.d (.str p0.Name)), (.d (.str p0.Src)), (.d (.int .i64 p0.N)), (.d (.sl (List.map rS p0.Cols))), (.d (.sl (List.map TE.row p0.Exprs))), (.d (.sl (List.map TS.row p0.Body))), (.d (.sl (List.map TS.row p0.Else)))])] st K) (H_s_RBlocks : ∀ (p0 : (List TS)) {r : Bool}, s_RBlocks p0 = some r → ∀ {st : List Content} {K : PV → List Content → Prop} (h : K (.d (.bool r)) st), Av PR Ic [(.d (.sl (List.map TS.row p0)))] st K) {r : Bool} (hr : HT s_RBuilt s_RBlocks n p0 = some r) {K : PV → List Content → Prop} (h : K (.d (.bool r)) st) : Av PR Ic [(.d (.sl (List.map TS.row p0)))] st K := by
 refine Av.of AJ7 (Nat.le_of_ble_eq_true rfl) fun hwf => ?_
 rw [B5]
 refine AQ ?_
 unfold Al9
 rw [HT] at hr
 refine Al (Af ?_)
 unfold TL
 refine Ab e_c (Aa (Ae (Al (Al (Af ?_)))))
 unfold UA
 refine Ab e_c (Aa (Ae ?_))
 refine AT ?_
 refine BX (fun m f st' => ∃ (v1 : Int), Ca p0 s_RBuilt m v1 = some r ∧ f 0 = (.d (.sl (List.map TS.row p0))) ∧ f 3 = (.d (.int .i64 v1)) ∧ st' = st ++ []) n (Ghost.refl _) ⟨(0 : Int), hr, (Ac rfl eh), eh, rfl⟩ ?_
 rintro m f st' ⟨v1, hr, h0, h3, rfl⟩
 cases m with
 | zero => cases hr
 | succ m_0 =>
   rw [Ca] at hr
   generalize hrec_0 : Ca p0 s_RBuilt m_0 = q0 at hr
   rw [Gd] at hr
   unfold UX
   refine Al (Al (Af ?_))
   unfold Tl
   refine Ab (e_t h3) (Ab (e_t (em rfl h0)) ?_)
   refine Bh (row := TS.row) (AP (e_t eh) Bt) ?_
   refine As (e_t (Ac rfl eh)) (e_t eh) (CM ?_)
   refine Aa (Ae ?_)
   refine AC (e_t eh) hr (fun hr => ?_) (fun hr => ?_)
   rotate_left
   · refine CG ?_
     refine AW ?_
     refine AW ?_
     refine DF ?_
     refine Ae (Al (Af ?_))
     unfold Vd
     refine Ab e_c (Aa (Ae (AI ?_)))
     cases hr
     exact A7 (AG eh AH) (AN AF v_d) (Ay hwf) h
   refine AO (Ae (Al ?_))
   refine AT ?_
   refine Al (Af ?_)
   unfold Uu
   refine Ab (e_t (Ad rfl h0)) (Ab (e_t (Ad rfl (em rfl h3))) ?_)
   refine Br (row := TS.row) (AP (e_t (em rfl eh)) Bt) (e_t eh) hr TS.row_eq (fun _ => rfl) (fun v2 hr => ?_)
   refine Dc (e_t eh) (Nat.le_of_ble_eq_true rfl) (by exact rfl) ?_
   obtain ⟨v3, hc_v3, hr⟩ := bind_some hr
   refine AJ (Ar (e_t eh) (Bx (Aq f_d (Aq f_d (Aq f_d (Aq f_d (Aq f_d (Aq f_d (Aq f_d (Aq f_d B3))))))))) AM) ?_
   refine H_s_RBuilt v2 hc_v3 ?_
   refine C2 (e_t eh) (Aa (Ae ?_))
   refine AC (e_t eh) hr (fun hr => ?_) (fun hr => ?_)
   rotate_left
   · refine AO ?_
     refine BB ?_
     refine Ae (Af ?_)
     unfold Uz
     refine Ab (e_t (Ak rfl (Ac rfl h3))) ?_
     refine As (e_t eh) e_c (BU ?_)
     refine Ab (e_t eh) (Aa (Ae ?_))
     exact ⟨m_0, _, Nat.lt_succ_self m_0, Ghost.refl _, (IntKind.wrap .i64 (v1 + (1 : Int))), (by rw [hrec_0]; exact hr), (Ak rfl (Ad rfl (em rfl h0))), eh, rfl⟩
   refine Al (Af ?_)
   unfold Ua
   refine Ab e_c (Aa (Ae (AI ?_)))
   refine BH ?_
   refine AA (AA ?_)
   refine BH ?_
   refine AA ?_
   cases hr
   exact A7 (AG eh AH) (AN AF v_d) (Ay hwf) h
mutual
def Dt : Nat → TS → Option Bool
 | 0, _ => none
 | n + 1, p0 => IR (Dt n) (B7 n) n p0
def B7 : Nat → (List TS) → Option Bool
 | 0, _ => none
 | n + 1, p0 => HT (Dt n) (B7 n) n p0
end
theorem Ox : ∀ n : Nat, (∀ (p0 : TS) {r : Bool}, Dt n p0 = some r → ∀ {st : List Content} {K : PV → List Content → Prop} (h : K (.d (.bool r)) st), Av PR NL [(.agg [(.d (.int .i64 p0.Op)), (.d (.str p0.Name)), (.d (.str p0.Src)), (.d (.int .i64 p0.N)), (.d (.sl (List.map rS p0.Cols))), (.d (.sl (List.map TE.row p0.Exprs))), (.d (.sl (List.map TS.row p0.Body))), (.d (.sl (List.map TS.row p0.Else)))])] st K) ∧ (∀ (p0 : (List TS)) {r : Bool}, B7 n p0 = some r → ∀ {st : List Content} {K : PV → List Content → Prop} (h : K (.d (.bool r)) st), Av PR Ic [(.d (.sl (List.map TS.row p0)))] st K)
 | 0 => ⟨fun _ _ hr => (by rw [Dt] at hr; cases hr), fun _ _ hr => (by rw [B7] at hr; cases hr)⟩
 | n + 1 => ⟨fun p0 _ hr _ _ h => AK2 (Dt n) (B7 n) n p0 (Ox n).1 (Ox n).2 (by rw [Dt] at hr; exact hr) h, fun p0 _ hr _ _ h => AA8 (Dt n) (B7 n) n p0 (Ox n).1 (Ox n).2 (by rw [B7] at hr; exact hr) h⟩
theorem AJ0 (n : Nat) (p0 : (List TS)) {r : Bool} (hr : B7 n p0 = some r) {K : PV → List Content → Prop} (h : K (.d (.bool r)) st) : Av PR Ic [(.d (.sl (List.map TS.row p0)))] st K := (Ox n).2 p0 hr h
end Go.Ax
