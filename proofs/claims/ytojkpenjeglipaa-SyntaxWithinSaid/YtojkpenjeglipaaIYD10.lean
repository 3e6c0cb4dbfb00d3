import Derived.Test.YtojkpenjeglipaaIYT
import Derived.Test.YtojkpenjeglipaaICVX
import Derived.Test.YtojkpenjeglipaaICPrim
import Derived.Test.YtojkpenjeglipaaIYD1
import Derived.Test.YtojkpenjeglipaaIYD7
import Derived.Test.YtojkpenjeglipaaIYD9
set_option linter.unusedVariables false
set_option linter.unusedSimpArgs false
namespace Go.Ax
attribute [local irreducible] BL ER FD Bf CF Fz B6 KZ HX upd ev u0 Dt frz A6 EB mmD bnd BV Ft Do CO GU Ht G2 cutV I1 Cv
variable {st : List Content}
def JZ (n : Nat) (p0 : TP) : Option (List ByteArray) :=
 ((KT n p0).bind fun v1 => ((K9 v1.1).bind fun v2 => some v2))
set_option maxRecDepth 100000 in
set_option maxHeartbeats 4000000 in
theorem YE (n : Nat) (p0 : TP) {r : (List ByteArray)} (hr : JZ n p0 = some r) {K : PV → List Content → Prop} (h : K (.d (.sl (List.map rS r))) st) : Aw PR Q6 [(.agg [(.d (.str p0.Name)), (.d (.str p0.From)), (.d (.str p0.At)), (.d (.int .i64 p0.Fuel)), (.d (.sl (List.map T_api_Column.row p0.Params))), (.d (.sl (List.map TS.row p0.Body)))])] st K := by
 refine Aw.of AH3 (Nat.le_of_ble_eq_true rfl) fun hwf => ?_
 rw [Cm]
 refine AQ ?_
 unfold Ar1
 rw [JZ] at hr
 refine Al (Af ?_)
 unfold W6
 refine Gw (k := 0) rfl rfl (e_t eh) Bg (by exact rfl) ?_
 refine Ab e_c (Aa (Ae (Al (Af ?_))))
 unfold WU
 refine BF (e_t (em rfl eh)) ((Am rfl 0).trans rfl) (Nat.le_of_ble_eq_true rfl) (by exact rfl) ?_
 obtain ⟨v1, hc_v1, hr⟩ := bind_some hr
 refine AP (Ay (e_t eh) (BP (Aq f_d (Aq f_d (Aq f_d (Aq f_d (Aq f_d (Aq f_d Cw))))))) AR) ?_
 refine AA5 n p0 hc_v1 (m := st.length + 1) (by simp) (List.append_assoc _ _ _) ?_
 refine Az0 (e_t eh) (by exact rfl) ?_
 refine AP (Ay (e_t eh) AH0 AR) ?_
 refine (AA1 (n0 := st.length) (k := 6) rfl rfl (by simp)).mono ?_
 rintro _ _ ⟨rfl, rfl⟩
 obtain ⟨v2, hc_v2, hr⟩ := bind_some hr
 refine AP (Ay (e_t eh) LD AR) ?_
 refine WH ((Am rfl 6).trans rfl) ((Am rfl 3).trans rfl) hc_v2 ?_
 refine Ab (e_t eh) (Aa (Ae (AI ?_)))
 cases hr
 exact A7 (AF eh AH) (AM AG v_d) (Av hwf) h
def M8 (p0 : (List ByteArray)) (p1 : (List ByteArray)) (q0 : Int → Option Bool) (v2 : Int) : Option Bool :=
 (bif (decide (v2 < (p0.length : Int))) then ((Dh p0 v2).bind fun v3 => ((Dh p1 v2).bind fun v4 => (bif (!decide (v3 = v4)) then some false else q0 (IntKind.wrap .i64 (v2 + (1 : Int)))))) else some true)
def F3 (p0 : (List ByteArray)) (p1 : (List ByteArray)) : Nat → Int → Option Bool
 | 0, _ => none
 | m + 1, v2 => M8 p0 p1 (F3 p0 p1 m) v2
def MT (n : Nat) (p0 : (List ByteArray)) (p1 : (List ByteArray)) : Option Bool :=
 (bif (!decide ((p0.length : Int) = (p1.length : Int))) then some false else (F3 p0 p1 n (0 : Int)))
set_option maxRecDepth 100000 in
set_option maxHeartbeats 4000000 in
theorem Ag8 (n : Nat) (p0 : (List ByteArray)) (p1 : (List ByteArray)) {r : Bool} (hr : MT n p0 p1 = some r) {K : PV → List Content → Prop} (h : K (.d (.bool r)) st) : Aw PR TZ [(.d (.sl (List.map rS p0))), (.d (.sl (List.map rS p1)))] st K := by
 refine Aw.of AM4 (Nat.le_of_ble_eq_true rfl) fun hwf => ?_
 rw [DX]
 refine AQ ?_
 unfold AA0
 rw [MT] at hr
 refine Al (Af ?_)
 unfold YH
 refine Ab e_c (Aa (Ae (Al (Al (Af ?_)))))
 unfold XT
 refine Ab (e_t (em rfl eh)) ?_
 refine Bh (row := rS) (AL (e_t eh) Bq) ?_
 refine Ab (e_t (Ad rfl eh)) ?_
 refine Bh (row := rS) (AL (e_t eh) Bq) ?_
 refine Ar (e_t (Ac rfl eh)) (e_t eh) (Sf ?_)
 refine Aa (Ae ?_)
 refine AC (e_t eh) hr (fun hr => ?_) (fun hr => ?_)
 · refine Al (Af ?_)
   unfold XV
   refine Ab e_c (Aa (Ae (AI (AA ?_))))
   cases hr
   exact A7 (AF eh AH) (AM AG v_d) (Av hwf) h
 refine AN (Ae (Al (Al (Af ?_))))
 unfold Zi
 refine Ab e_c (Aa (Ae ?_))
 refine AX ?_
 refine Ca (fun m f st' => ∃ (v2 : Int), F3 p0 p1 m v2 = some r ∧ f 0 = (.d (.sl (List.map rS p0))) ∧ f 1 = (.d (.sl (List.map rS p1))) ∧ f 5 = (.d (.int .i64 v2)) ∧ st' = st ++ []) n (Ghost.refl _) ⟨(0 : Int), hr, (Ad rfl (Ac rfl (em rfl eh))), (Ad rfl (Ad rfl eh)), eh, rfl⟩ ?_
 rintro m f st' ⟨v2, hr, h0, h1, h5, rfl⟩
 cases m with
 | zero => cases hr
 | succ m_0 =>
   rw [F3] at hr
   generalize hrec_0 : F3 p0 p1 m_0 = q0 at hr
   rw [M8] at hr
   unfold X5
   refine Al (Al (Af ?_))
   unfold YL
   refine Ab (e_t h5) (Ab (e_t (em rfl h0)) ?_)
   refine Bh (row := rS) (AL (e_t eh) Bq) ?_
   refine Ar (e_t (Ac rfl eh)) (e_t eh) (CL ?_)
   refine Aa (Ae ?_)
   refine AC (e_t eh) hr (fun hr => ?_) (fun hr => ?_)
   rotate_left
   · refine CP ?_
     refine A0 ?_
     refine A0 ?_
     refine Ea ?_
     refine Ae (Al (Af ?_))
     unfold XL
     refine Ab e_c (Aa (Ae (AI ?_)))
     cases hr
     exact A7 (AF eh AH) (AM AG v_d) (Av hwf) h
   refine AN (Ae (Al ?_))
   refine AX ?_
   refine Al ?_
   refine DI (k := 0) rfl rfl ?_
   unfold XZ
   refine Ab (e_t (Ad rfl h0)) (Ab (e_t (Ad rfl (em rfl h5))) ?_)
   refine Bt (row := rS) (AL (e_t (em rfl eh)) Bq) (e_t eh) hr (fun _ => rfl) (fun _ => rfl) (fun v3 hr => ?_)
   refine BG (e_t eh) (by exact rfl) ?_
   refine Ab (e_t (Ad rfl (Ad rfl h1))) (Ab (e_t (Ak rfl (em rfl h5))) ?_)
   refine Bt (row := rS) (AL (e_t (em rfl eh)) Bq) (e_t eh) hr (fun _ => rfl) (fun _ => rfl) (fun v4 hr => ?_)
   refine BG (e_t eh) (by exact rfl) ?_
   refine Ar (e_t (Ad rfl eh)) (e_t eh) (MG ?_)
   refine Aa (Ae ?_)
   refine AC (e_t eh) hr (fun hr => ?_) (fun hr => ?_)
   rotate_left
   · refine AN ?_
     refine BA ?_
     refine Ae (Af ?_)
     unfold Yr
     refine Ab (e_t (Ak rfl (Ad rfl (em rfl h5)))) ?_
     refine Ar (e_t eh) e_c (BX ?_)
     refine Ab (e_t eh) (Aa (Ae ?_))
     exact ⟨m_0, _, Nat.lt_succ_self m_0, Ghost.refl _, (IntKind.wrap .i64 (v2 + (1 : Int))), (by rw [hrec_0]; exact hr), (Ak rfl (Ad rfl (Ad rfl h0))), (Ak rfl (Ad rfl (Ad rfl h1))), eh, rfl⟩
   refine Al (Af ?_)
   unfold X3
   refine Ab e_c (Aa (Ae (AI ?_)))
   refine BE ?_
   refine AA (AA ?_)
   refine BE ?_
   refine AA ?_
   cases hr
   exact A7 (AF eh AH) (AM AG v_d) (Av hwf) h
def VG (n : Nat) (p0 : TP) : Option (List ByteArray) :=
 ((KT n p0).bind fun v1 => ((K9 v1.2.1).bind fun v2 => some v2))
set_option maxRecDepth 100000 in
set_option maxHeartbeats 4000000 in
theorem AB3 (n : Nat) (p0 : TP) {r : (List ByteArray)} (hr : VG n p0 = some r) {K : PV → List Content → Prop} (h : K (.d (.sl (List.map rS r))) st) : Aw PR VE [(.agg [(.d (.str p0.Name)), (.d (.str p0.From)), (.d (.str p0.At)), (.d (.int .i64 p0.Fuel)), (.d (.sl (List.map T_api_Column.row p0.Params))), (.d (.sl (List.map TS.row p0.Body)))])] st K := by
 refine Aw.of AA8 (Nat.le_of_ble_eq_true rfl) fun hwf => ?_
 rw [Cm]
 refine AQ ?_
 unfold Ae0
 rw [VG] at hr
 refine Al (Af ?_)
 unfold Ul
 refine Gw (k := 0) rfl rfl (e_t eh) Bg (by exact rfl) ?_
 refine Ab e_c (Aa (Ae (Al (Af ?_))))
 unfold Ua
 refine BF (e_t (em rfl eh)) ((Am rfl 0).trans rfl) (Nat.le_of_ble_eq_true rfl) (by exact rfl) ?_
 obtain ⟨v1, hc_v1, hr⟩ := bind_some hr
 refine AP (Ay (e_t eh) (BP (Aq f_d (Aq f_d (Aq f_d (Aq f_d (Aq f_d (Aq f_d Cw))))))) AR) ?_
 refine AA5 n p0 hc_v1 (m := st.length + 1) (by simp) (List.append_assoc _ _ _) ?_
 refine Az0 (e_t eh) (by exact rfl) ?_
 refine AP (Ay (e_t eh) AH0 AR) ?_
 refine (AA1 (n0 := st.length) (k := 6) rfl rfl (by simp)).mono ?_
 rintro _ _ ⟨rfl, rfl⟩
 obtain ⟨v2, hc_v2, hr⟩ := bind_some hr
 refine AP (Ay (e_t eh) LD AR) ?_
 refine WH ((Am rfl 6).trans rfl) ((Am rfl 4).trans rfl) hc_v2 ?_
 refine Ab (e_t eh) (Aa (Ae (AI ?_)))
 cases hr
 exact A7 (AF eh AH) (AM AG v_d) (Av hwf) h
def Mo (v0 : (Int × Int)) (v7 : Bool) : Option Bool :=
 (bif v7 then (bif (decide (v0.1 = (2 : Int))) then some (decide (v0.2 = (2 : Int))) else some false) else some false)
def Mm (n : Nat) (v0 : (Int × Int)) (v4 : Bool) : Option Bool :=
 (bif v4 then ((VG n (⟨(⟨#[112]⟩ : ByteArray), (⟨#[]⟩ : ByteArray), (⟨#[]⟩ : ByteArray), (1 : Int), [], [(⟨(5 : Int), (⟨#[97]⟩ : ByteArray), (⟨#[116]⟩ : ByteArray), (0 : Int), [], [(⟨(3 : Int), (1 : Int), (⟨#[]⟩ : ByteArray), (⟨#[]⟩ : ByteArray), (⟨#[]⟩ : ByteArray), []⟩ : TE)], [], []⟩ : TS)]⟩ : TP)).bind fun v5 => ((MT n v5 ([(⟨#[116]⟩ : ByteArray)])).bind fun v6 => (Mo v0 v6))) else (Mo v0 false))
def N9 (n : Nat)  : Option Bool :=
 ((MU n (⟨(⟨#[112]⟩ : ByteArray), (⟨#[]⟩ : ByteArray), (⟨#[]⟩ : ByteArray), (1 : Int), [], [(⟨(5 : Int), (⟨#[97]⟩ : ByteArray), (⟨#[116]⟩ : ByteArray), (0 : Int), [], [(⟨(3 : Int), (1 : Int), (⟨#[]⟩ : ByteArray), (⟨#[]⟩ : ByteArray), (⟨#[]⟩ : ByteArray), []⟩ : TE)], [], []⟩ : TS)]⟩ : TP)).bind fun v0 => ((Kf n (⟨(⟨#[112]⟩ : ByteArray), (⟨#[]⟩ : ByteArray), (⟨#[]⟩ : ByteArray), (1 : Int), [], [(⟨(5 : Int), (⟨#[97]⟩ : ByteArray), (⟨#[116]⟩ : ByteArray), (0 : Int), [], [(⟨(3 : Int), (1 : Int), (⟨#[]⟩ : ByteArray), (⟨#[]⟩ : ByteArray), (⟨#[]⟩ : ByteArray), []⟩ : TE)], [], []⟩ : TS)]⟩ : TP)).bind fun v1 => (bif v1 then ((JZ n (⟨(⟨#[112]⟩ : ByteArray), (⟨#[]⟩ : ByteArray), (⟨#[]⟩ : ByteArray), (1 : Int), [], [(⟨(5 : Int), (⟨#[97]⟩ : ByteArray), (⟨#[116]⟩ : ByteArray), (0 : Int), [], [(⟨(3 : Int), (1 : Int), (⟨#[]⟩ : ByteArray), (⟨#[]⟩ : ByteArray), (⟨#[]⟩ : ByteArray), []⟩ : TE)], [], []⟩ : TS)]⟩ : TP)).bind fun v2 => ((MT n v2 ([(⟨#[116]⟩ : ByteArray)])).bind fun v3 => (Mm n v0 v3))) else (Mm n v0 false))))
set_option maxRecDepth 100000 in
set_option maxHeartbeats 4000000 in
theorem Ao7 (n : Nat)  {r : Bool} (hr : N9 n = some r) {K : PV → List Content → Prop} (h : K (.d (.bool r)) st) : Aw PR S2 [] st K := by
 refine Aw.of AE8 (Nat.le_of_ble_eq_true rfl) fun hwf => ?_
 rw [Ax5]
 refine AQ ?_
 unfold Ak9
 rw [N9] at hr
 refine Al (Af ?_)
 unfold Wo
 refine Ab e_c (Aa (Ae (Al (Af ?_))))
 unfold VK
 refine Ir (cs := [(.d (.int .i64 (3 : Int))), (.d (.int .i64 (1 : Int))), (.d (.str (⟨#[]⟩ : ByteArray))), (.d (.str (⟨#[]⟩ : ByteArray))), (.d (.str (⟨#[]⟩ : ByteArray))), (.ex [])]) (Cl e_c AZ rfl (Nat.le_of_ble_eq_true rfl) (by exact rfl) (Cl e_c AZ rfl (Nat.le_of_ble_eq_true rfl) (by exact rfl) Kp)) (Ck e_c AZ (by exact rfl) (Ck e_c AZ (by exact rfl) Kt)) ?_
 refine Ci (k := 0) rfl rfl ?_
 refine Bl (e_t eh) ((Am rfl 0).trans rfl) (e_t (em rfl eh)) Bg rfl (Nat.le_of_ble_eq_true rfl) (by exact rfl) (cells' := [(.d (.int .i64 (3 : Int))), (.d (.int .i64 (1 : Int))), (.d (.str (⟨#[]⟩ : ByteArray))), (.d (.str (⟨#[]⟩ : ByteArray))), (.d (.str (⟨#[]⟩ : ByteArray))), (.ex [])]) (by exact rfl) (Bk rfl _ _) ?_
 refine Aa (Ae (Al (Af ?_)))
 unfold WW
 refine BF (e_t eh) ((Am rfl 0).trans rfl) (Nat.le_of_ble_eq_true rfl) (by exact rfl) ?_
 refine CX (rows := List.map TE.row [(⟨(3 : Int), (1 : Int), (⟨#[]⟩ : ByteArray), (⟨#[]⟩ : ByteArray), (⟨#[]⟩ : ByteArray), []⟩ : TE)]) (JU (by simp only [List.map, TE.row_eq]) (AE (e_t eh) Bg (As f_d (As f_d (As f_d (As f_d (As f_d (As Uk AK)))))) rfl DV)) ?_
 refine Ir (cs := [(.d (.int .i64 (5 : Int))), (.d (.str (⟨#[97]⟩ : ByteArray))), (.d (.str (⟨#[116]⟩ : ByteArray))), (.d (.int .i64 (0 : Int))), (.ex []), (.ex (List.map TE.row ([(⟨(3 : Int), (1 : Int), (⟨#[]⟩ : ByteArray), (⟨#[]⟩ : ByteArray), (⟨#[]⟩ : ByteArray), []⟩ : TE)]))), (.ex []), (.ex [])]) (Cl e_c AZ rfl (Nat.le_of_ble_eq_true rfl) (by exact rfl) (Cl e_c AZ rfl (Nat.le_of_ble_eq_true rfl) (by exact rfl) (Cl e_c AZ rfl (Nat.le_of_ble_eq_true rfl) (by exact rfl) (Cl (e_t eh) rfl rfl (Nat.le_of_ble_eq_true rfl) (by exact rfl) Kp)))) (Ck e_c AZ (by exact rfl) (Ck e_c AZ (by exact rfl) (Ck e_c AZ (by exact rfl) (Ck (e_t eh) rfl (by exact rfl) Kt)))) ?_
 refine CX (rows := List.map TS.row [(⟨(5 : Int), (⟨#[97]⟩ : ByteArray), (⟨#[116]⟩ : ByteArray), (0 : Int), [], [(⟨(3 : Int), (1 : Int), (⟨#[]⟩ : ByteArray), (⟨#[]⟩ : ByteArray), (⟨#[]⟩ : ByteArray), []⟩ : TE)], [], []⟩ : TS)]) (JU (by simp only [List.map, TS.row_eq]) (AE (e_t eh) Bg (As f_d (As f_d (As f_d (As f_d (As Uk (As Uk (As Uk (As Uk AK)))))))) rfl DV)) ?_
 refine Ir (cs := [(.d (.str (⟨#[112]⟩ : ByteArray))), (.d (.str (⟨#[]⟩ : ByteArray))), (.d (.str (⟨#[]⟩ : ByteArray))), (.d (.int .i64 (1 : Int))), (.ex []), (.ex (List.map TS.row ([(⟨(5 : Int), (⟨#[97]⟩ : ByteArray), (⟨#[116]⟩ : ByteArray), (0 : Int), [], [(⟨(3 : Int), (1 : Int), (⟨#[]⟩ : ByteArray), (⟨#[]⟩ : ByteArray), (⟨#[]⟩ : ByteArray), []⟩ : TE)], [], []⟩ : TS)])))]) (Cl e_c AZ rfl (Nat.le_of_ble_eq_true rfl) (by exact rfl) (Cl e_c AZ rfl (Nat.le_of_ble_eq_true rfl) (by exact rfl) (Cl (e_t eh) rfl rfl (Nat.le_of_ble_eq_true rfl) (by exact rfl) Kp))) (Ck e_c AZ (by exact rfl) (Ck e_c AZ (by exact rfl) (Ck (e_t eh) rfl (by exact rfl) Kt))) ?_
 refine Ci (k := 1) rfl rfl ?_
 refine Bl (e_t eh) ((Am rfl 1).trans rfl) (e_t (em rfl eh)) Bg rfl (Nat.le_of_ble_eq_true rfl) (by exact rfl) (cells' := [(.d (.str (⟨#[112]⟩ : ByteArray))), (.d (.str (⟨#[]⟩ : ByteArray))), (.d (.str (⟨#[]⟩ : ByteArray))), (.d (.int .i64 (1 : Int))), (.ex []), (.ex (List.map TS.row ([(⟨(5 : Int), (⟨#[97]⟩ : ByteArray), (⟨#[116]⟩ : ByteArray), (0 : Int), [], [(⟨(3 : Int), (1 : Int), (⟨#[]⟩ : ByteArray), (⟨#[]⟩ : ByteArray), (⟨#[]⟩ : ByteArray), []⟩ : TE)], [], []⟩ : TS)])))]) (by exact rfl) (Bk rfl _ _) ?_
 refine Aa (Ae (Al (Af ?_)))
 unfold Wz
 refine BF (e_t eh) ((Am rfl 1).trans rfl) (Nat.le_of_ble_eq_true rfl) (by exact rfl) ?_
 obtain ⟨v0, hc_v0, hr⟩ := bind_some hr
 refine AP (Ay (e_t eh) (BP (Aq f_d (Aq f_d (Aq f_d (Aq f_d (Aq Uk (Aq Uk Cw))))))) AR) ?_
 refine Aj7 n (⟨(⟨#[112]⟩ : ByteArray), (⟨#[]⟩ : ByteArray), (⟨#[]⟩ : ByteArray), (1 : Int), [], [(⟨(5 : Int), (⟨#[97]⟩ : ByteArray), (⟨#[116]⟩ : ByteArray), (0 : Int), [], [(⟨(3 : Int), (1 : Int), (⟨#[]⟩ : ByteArray), (⟨#[]⟩ : ByteArray), (⟨#[]⟩ : ByteArray), []⟩ : TE)], [], []⟩ : TS)]⟩ : TP) hc_v0 ?_
 refine Ab (e_t eh) ?_
 refine GZ (e_t eh) (by exact rfl) ?_
 refine GZ (e_t (em rfl eh)) (by exact rfl) ?_
 refine Ab (e_t (em rfl eh)) (Ab (e_t (em rfl eh)) (Aa (Ae (Al (Af ?_)))))
 unfold Xe
 refine Bb (fun f st' => ∃ (v4 : Bool), Mm n v0 v4 = some r ∧ f 2 = (.ptr (st.length + 1) 0) ∧ f 3 = (.d (.int .i64 v0.1)) ∧ f 4 = (.d (.int .i64 v0.2)) ∧ f 23 = (.d (.bool v4)) ∧ st' = st ++ [(.box [(.d (.int .i64 (3 : Int))), (.d (.int .i64 (1 : Int))), (.d (.str (⟨#[]⟩ : ByteArray))), (.d (.str (⟨#[]⟩ : ByteArray))), (.d (.str (⟨#[]⟩ : ByteArray))), (.ex [])]), (.box [(.d (.str (⟨#[112]⟩ : ByteArray))), (.d (.str (⟨#[]⟩ : ByteArray))), (.d (.str (⟨#[]⟩ : ByteArray))), (.d (.int .i64 (1 : Int))), (.ex []), (.ex (List.map TS.row ([(⟨(5 : Int), (⟨#[97]⟩ : ByteArray), (⟨#[116]⟩ : ByteArray), (0 : Int), [], [(⟨(3 : Int), (1 : Int), (⟨#[]⟩ : ByteArray), (⟨#[]⟩ : ByteArray), (⟨#[]⟩ : ByteArray), []⟩ : TE)], [], []⟩ : TS)])))])]) ?_ ?_
 · unfold R5
   refine BF (e_t (Ad rfl (Ac rfl (em rfl eh)))) ((Am rfl 1).trans rfl) (Nat.le_of_ble_eq_true rfl) (by exact rfl) ?_
   obtain ⟨v1, hc_v1, hr⟩ := bind_some hr
   refine AP (Ay (e_t eh) (BP (Aq f_d (Aq f_d (Aq f_d (Aq f_d (Aq Uk (Aq Uk Cw))))))) AR) ?_
   refine X8 n (⟨(⟨#[112]⟩ : ByteArray), (⟨#[]⟩ : ByteArray), (⟨#[]⟩ : ByteArray), (1 : Int), [], [(⟨(5 : Int), (⟨#[97]⟩ : ByteArray), (⟨#[116]⟩ : ByteArray), (0 : Int), [], [(⟨(3 : Int), (1 : Int), (⟨#[]⟩ : ByteArray), (⟨#[]⟩ : ByteArray), (⟨#[]⟩ : ByteArray), []⟩ : TE)], [], []⟩ : TS)]⟩ : TP) hc_v1 ?_
   refine Ab (e_t eh) ?_
   refine Au eh hr (fun hr => ?_) (fun hr => ?_)
   rotate_left
   · refine Ah eh (Ah (em rfl eh) (Ah (Ac rfl eh) (Ah (Ac rfl (em rfl eh)) (Ao (e_t (Ad rfl eh)) e_c (Aa ?_)))))
     exact ⟨false, hr, (Ak rfl (Ad rfl (Ad rfl eh))), (Ak rfl (Ac rfl eh)), (Ak rfl (em rfl eh)), eh, rfl⟩
   refine Aj eh ?_
   refine BF (e_t (Ak rfl (Ac rfl (em rfl eh)))) ((Am rfl 1).trans rfl) (Nat.le_of_ble_eq_true rfl) (by exact rfl) ?_
   refine Aj (em rfl eh) ?_
   obtain ⟨v2, hc_v2, hr⟩ := bind_some hr
   refine AP (Ay (e_t eh) (BP (Aq f_d (Aq f_d (Aq f_d (Aq f_d (Aq Uk (Aq Uk Cw))))))) AR) ?_
   refine YE n (⟨(⟨#[112]⟩ : ByteArray), (⟨#[]⟩ : ByteArray), (⟨#[]⟩ : ByteArray), (1 : Int), [], [(⟨(5 : Int), (⟨#[97]⟩ : ByteArray), (⟨#[116]⟩ : ByteArray), (0 : Int), [], [(⟨(3 : Int), (1 : Int), (⟨#[]⟩ : ByteArray), (⟨#[]⟩ : ByteArray), (⟨#[]⟩ : ByteArray), []⟩ : TE)], [], []⟩ : TS)]⟩ : TP) hc_v2 ?_
   refine Aj (Ac rfl eh) ?_
   refine CX (rows := List.map rS [(⟨#[116]⟩ : ByteArray)]) ((AE e_c AZ (As f_d AK) rfl DV)) ?_
   refine Aj (Ac rfl (em rfl eh)) ?_
   obtain ⟨v3, hc_v3, hr⟩ := bind_some hr
   refine AP (Ay (e_t (em rfl eh)) AG (Ay (e_t eh) RO AR)) ?_
   refine Ag8 n v2 ([(⟨#[116]⟩ : ByteArray)]) hc_v3 ?_
   refine An (e_t (Ad rfl eh)) (e_t eh) (Aa ?_)
   exact ⟨v3, hr, (Ak rfl (Ad rfl (Ad rfl eh))), (Ak rfl (Ac rfl eh)), (Ak rfl (em rfl eh)), eh, rfl⟩
 rintro f st' ⟨v4, hr, h2, h3, h4, h23, rfl⟩
 rw [Mm] at hr
 refine Bb (fun f st' => ∃ (v7 : Bool), Mo v0 v7 = some r ∧ f 3 = (.d (.int .i64 v0.1)) ∧ f 4 = (.d (.int .i64 v0.2)) ∧ f 29 = (.d (.bool v7)) ∧ st' = st ++ [(.box [(.d (.int .i64 (3 : Int))), (.d (.int .i64 (1 : Int))), (.d (.str (⟨#[]⟩ : ByteArray))), (.d (.str (⟨#[]⟩ : ByteArray))), (.d (.str (⟨#[]⟩ : ByteArray))), (.ex [])]), (.box [(.d (.str (⟨#[112]⟩ : ByteArray))), (.d (.str (⟨#[]⟩ : ByteArray))), (.d (.str (⟨#[]⟩ : ByteArray))), (.d (.int .i64 (1 : Int))), (.ex []), (.ex (List.map TS.row ([(⟨(5 : Int), (⟨#[97]⟩ : ByteArray), (⟨#[116]⟩ : ByteArray), (0 : Int), [], [(⟨(3 : Int), (1 : Int), (⟨#[]⟩ : ByteArray), (⟨#[]⟩ : ByteArray), (⟨#[]⟩ : ByteArray), []⟩ : TE)], [], []⟩ : TS)])))])]) ?_ ?_
 · unfold RH
   refine Ab (e_t h23) ?_
   refine Au eh hr (fun hr => ?_) (fun hr => ?_)
   rotate_left
   · refine Ah eh (Ah (em rfl eh) (Ah (Ac rfl eh) (Ah (Ac rfl (em rfl eh)) (Ao (e_t (Ad rfl eh)) e_c (Aa ?_)))))
     exact ⟨false, hr, (Ad rfl (Ac rfl (em rfl h3))), (Ad rfl (Ac rfl (em rfl h4))), eh, rfl⟩
   refine Aj eh ?_
   refine BF (e_t (Ac rfl h2)) ((Am rfl 1).trans rfl) (Nat.le_of_ble_eq_true rfl) (by exact rfl) ?_
   refine Aj (em rfl eh) ?_
   obtain ⟨v5, hc_v5, hr⟩ := bind_some hr
   refine AP (Ay (e_t eh) (BP (Aq f_d (Aq f_d (Aq f_d (Aq f_d (Aq Uk (Aq Uk Cw))))))) AR) ?_
   refine AB3 n (⟨(⟨#[112]⟩ : ByteArray), (⟨#[]⟩ : ByteArray), (⟨#[]⟩ : ByteArray), (1 : Int), [], [(⟨(5 : Int), (⟨#[97]⟩ : ByteArray), (⟨#[116]⟩ : ByteArray), (0 : Int), [], [(⟨(3 : Int), (1 : Int), (⟨#[]⟩ : ByteArray), (⟨#[]⟩ : ByteArray), (⟨#[]⟩ : ByteArray), []⟩ : TE)], [], []⟩ : TS)]⟩ : TP) hc_v5 ?_
   refine Aj (Ac rfl eh) ?_
   refine CX (rows := List.map rS [(⟨#[116]⟩ : ByteArray)]) ((AE e_c AZ (As f_d AK) rfl DV)) ?_
   refine Aj (Ac rfl (em rfl eh)) ?_
   obtain ⟨v6, hc_v6, hr⟩ := bind_some hr
   refine AP (Ay (e_t (em rfl eh)) AG (Ay (e_t eh) RO AR)) ?_
   refine Ag8 n v5 ([(⟨#[116]⟩ : ByteArray)]) hc_v6 ?_
   refine An (e_t (Ad rfl eh)) (e_t eh) (Aa ?_)
   exact ⟨v6, hr, (Ad rfl (Ac rfl (em rfl h3))), (Ad rfl (Ac rfl (em rfl h4))), eh, rfl⟩
 rintro f st' ⟨v7, hr, h3, h4, h29, rfl⟩
 rw [Mo] at hr
 refine Bo ?_
 unfold R2
 refine Ab (e_t h29) ?_
 refine Au eh hr (fun hr => ?_) (fun hr => ?_)
 rotate_left
 · refine Ah eh (Ah (em rfl eh) (Ao (e_t (Ac rfl eh)) e_c (Aa ?_)))
   refine Bo ?_
   unfold Nj
   refine Ab (e_t eh) (Ah eh (Ah (em rfl eh) (Ao (e_t (Ac rfl eh)) e_c (Aa ?_))))
   unfold JS
   refine Ab (e_t eh) (Aa (Ae (AI ?_)))
   cases hr
   exact A7 (AF eh AH) (AM AG v_d) (Av hwf) h
 refine Aj eh (Ab (e_t (Ac rfl h3)) (Aj (em rfl eh) ?_))
 refine Ar (e_t eh) e_c (BZ ?_)
 refine An (e_t (Ac rfl eh)) (e_t eh) (Aa ?_)
 refine Bo ?_
 unfold Nj
 refine Ab (e_t eh) ?_
 refine Au eh hr (fun hr => ?_) (fun hr => ?_)
 rotate_left
 · refine Ah eh (Ah (em rfl eh) (Ao (e_t (Ac rfl eh)) e_c (Aa ?_)))
   unfold JS
   refine Ab (e_t eh) (Aa (Ae (AI ?_)))
   cases hr
   exact A7 (AF eh AH) (AM AG v_d) (Av hwf) h
 refine Aj eh (Ab (e_t (Ad rfl (Ac rfl (em rfl h4)))) (Aj (em rfl eh) ?_))
 refine Ar (e_t eh) e_c (BZ ?_)
 refine An (e_t (Ac rfl eh)) (e_t eh) (Aa ?_)
 unfold JS
 refine Ab (e_t eh) (Aa (Ae (AI ?_)))
 cases hr
 exact A7 (AF eh AH) (AM AG v_d) (Av hwf) h
def EI (p0 : ByteArray) (q0 : Int → Option Bool) (v1 : Int) : Option Bool :=
 (bif (decide (v1 < (([(⟨#[97, 110, 100]⟩ : ByteArray), (⟨#[111, 114]⟩ : ByteArray), (⟨#[110, 111, 116]⟩ : ByteArray), (⟨#[116, 114, 117, 101]⟩ : ByteArray), (⟨#[102, 97, 108, 115, 101]⟩ : ByteArray), (⟨#[108, 101, 116]⟩ : ByteArray), (⟨#[115, 101, 116]⟩ : ByteArray), (⟨#[105, 110, 115, 101, 114, 116]⟩ : ByteArray), (⟨#[117, 112, 100, 97, 116, 101]⟩ : ByteArray), (⟨#[100, 101, 108, 101, 116, 101]⟩ : ByteArray), (⟨#[102, 111, 114]⟩ : ByteArray), (⟨#[105, 110]⟩ : ByteArray), (⟨#[119, 104, 101, 114, 101]⟩ : ByteArray), (⟨#[108, 105, 109, 105, 116]⟩ : ByteArray), (⟨#[105, 102]⟩ : ByteArray), (⟨#[101, 108, 115, 101]⟩ : ByteArray), (⟨#[101, 109, 105, 116]⟩ : ByteArray), (⟨#[97, 98, 111, 114, 116]⟩ : ByteArray), (⟨#[114, 101, 112, 108, 121]⟩ : ByteArray), (⟨#[99, 111, 117, 110, 116]⟩ : ByteArray), (⟨#[115, 117, 109]⟩ : ByteArray), (⟨#[109, 105, 110]⟩ : ByteArray), (⟨#[109, 97, 120]⟩ : ByteArray), (⟨#[105, 110, 116]⟩ : ByteArray), (⟨#[116, 101, 120, 116]⟩ : ByteArray), (⟨#[98, 111, 111, 108]⟩ : ByteArray), (⟨#[116, 97, 98, 108, 101]⟩ : ByteArray), (⟨#[115, 116, 114, 101, 97, 109]⟩ : ByteArray), (⟨#[119, 105, 110, 100, 111, 119]⟩ : ByteArray), (⟨#[115, 105, 110, 107]⟩ : ByteArray), (⟨#[112, 114, 111, 99]⟩ : ByteArray), (⟨#[107, 101, 121]⟩ : ByteArray), (⟨#[117, 110, 105, 113, 117, 101]⟩ : ByteArray), (⟨#[105, 110, 100, 101, 120]⟩ : ByteArray), (⟨#[112, 97, 114, 116, 115]⟩ : ByteArray), (⟨#[98, 121]⟩ : ByteArray), (⟨#[111, 110]⟩ : ByteArray), (⟨#[102, 114, 111, 109]⟩ : ByteArray), (⟨#[97, 116]⟩ : ByteArray), (⟨#[102, 117, 101, 108]⟩ : ByteArray), (⟨#[116, 117, 112, 108, 101, 115]⟩ : ByteArray), (⟨#[98, 97, 116, 99, 104, 101, 115]⟩ : ByteArray), (⟨#[115, 108, 105, 100, 101]⟩ : ByteArray)]).length : Int))) then ((Dh ([(⟨#[97, 110, 100]⟩ : ByteArray), (⟨#[111, 114]⟩ : ByteArray), (⟨#[110, 111, 116]⟩ : ByteArray), (⟨#[116, 114, 117, 101]⟩ : ByteArray), (⟨#[102, 97, 108, 115, 101]⟩ : ByteArray), (⟨#[108, 101, 116]⟩ : ByteArray), (⟨#[115, 101, 116]⟩ : ByteArray), (⟨#[105, 110, 115, 101, 114, 116]⟩ : ByteArray), (⟨#[117, 112, 100, 97, 116, 101]⟩ : ByteArray), (⟨#[100, 101, 108, 101, 116, 101]⟩ : ByteArray), (⟨#[102, 111, 114]⟩ : ByteArray), (⟨#[105, 110]⟩ : ByteArray), (⟨#[119, 104, 101, 114, 101]⟩ : ByteArray), (⟨#[108, 105, 109, 105, 116]⟩ : ByteArray), (⟨#[105, 102]⟩ : ByteArray), (⟨#[101, 108, 115, 101]⟩ : ByteArray), (⟨#[101, 109, 105, 116]⟩ : ByteArray), (⟨#[97, 98, 111, 114, 116]⟩ : ByteArray), (⟨#[114, 101, 112, 108, 121]⟩ : ByteArray), (⟨#[99, 111, 117, 110, 116]⟩ : ByteArray), (⟨#[115, 117, 109]⟩ : ByteArray), (⟨#[109, 105, 110]⟩ : ByteArray), (⟨#[109, 97, 120]⟩ : ByteArray), (⟨#[105, 110, 116]⟩ : ByteArray), (⟨#[116, 101, 120, 116]⟩ : ByteArray), (⟨#[98, 111, 111, 108]⟩ : ByteArray), (⟨#[116, 97, 98, 108, 101]⟩ : ByteArray), (⟨#[115, 116, 114, 101, 97, 109]⟩ : ByteArray), (⟨#[119, 105, 110, 100, 111, 119]⟩ : ByteArray), (⟨#[115, 105, 110, 107]⟩ : ByteArray), (⟨#[112, 114, 111, 99]⟩ : ByteArray), (⟨#[107, 101, 121]⟩ : ByteArray), (⟨#[117, 110, 105, 113, 117, 101]⟩ : ByteArray), (⟨#[105, 110, 100, 101, 120]⟩ : ByteArray), (⟨#[112, 97, 114, 116, 115]⟩ : ByteArray), (⟨#[98, 121]⟩ : ByteArray), (⟨#[111, 110]⟩ : ByteArray), (⟨#[102, 114, 111, 109]⟩ : ByteArray), (⟨#[97, 116]⟩ : ByteArray), (⟨#[102, 117, 101, 108]⟩ : ByteArray), (⟨#[116, 117, 112, 108, 101, 115]⟩ : ByteArray), (⟨#[98, 97, 116, 99, 104, 101, 115]⟩ : ByteArray), (⟨#[115, 108, 105, 100, 101]⟩ : ByteArray)]) v1).bind fun v2 => (bif (decide (v2 = p0)) then some true else q0 (IntKind.wrap .i64 (v1 + (1 : Int))))) else some false)
def BB (p0 : ByteArray) : Nat → Int → Option Bool
 | 0, _ => none
 | m + 1, v1 => EI p0 (BB p0 m) v1
def FO (n : Nat) (p0 : ByteArray) : Option Bool :=
 (BB p0 n (0 : Int))
set_option maxRecDepth 100000 in
set_option maxHeartbeats 4000000 in
theorem Ar7 (n : Nat) (p0 : ByteArray) {r : Bool} (hr : FO n p0 = some r) {K : PV → List Content → Prop} (h : K (.d (.bool r)) st) : Aw PR QD [(.d (.str p0))] st K := by
 refine Aw.of Ar4 (Nat.le_of_ble_eq_true rfl) fun hwf => ?_
 rw [Cm]
 refine AQ ?_
 unfold WA
 rw [FO] at hr
 refine Al (Af ?_)
 unfold Qh
 refine Ab e_c (Aa (Ae (Al (Af ?_))))
 unfold Qn
 refine CX (rows := List.map rS [(⟨#[97, 110, 100]⟩ : ByteArray), (⟨#[111, 114]⟩ : ByteArray), (⟨#[110, 111, 116]⟩ : ByteArray), (⟨#[116, 114, 117, 101]⟩ : ByteArray), (⟨#[102, 97, 108, 115, 101]⟩ : ByteArray), (⟨#[108, 101, 116]⟩ : ByteArray), (⟨#[115, 101, 116]⟩ : ByteArray), (⟨#[105, 110, 115, 101, 114, 116]⟩ : ByteArray), (⟨#[117, 112, 100, 97, 116, 101]⟩ : ByteArray), (⟨#[100, 101, 108, 101, 116, 101]⟩ : ByteArray), (⟨#[102, 111, 114]⟩ : ByteArray), (⟨#[105, 110]⟩ : ByteArray), (⟨#[119, 104, 101, 114, 101]⟩ : ByteArray), (⟨#[108, 105, 109, 105, 116]⟩ : ByteArray), (⟨#[105, 102]⟩ : ByteArray), (⟨#[101, 108, 115, 101]⟩ : ByteArray), (⟨#[101, 109, 105, 116]⟩ : ByteArray), (⟨#[97, 98, 111, 114, 116]⟩ : ByteArray), (⟨#[114, 101, 112, 108, 121]⟩ : ByteArray), (⟨#[99, 111, 117, 110, 116]⟩ : ByteArray), (⟨#[115, 117, 109]⟩ : ByteArray), (⟨#[109, 105, 110]⟩ : ByteArray), (⟨#[109, 97, 120]⟩ : ByteArray), (⟨#[105, 110, 116]⟩ : ByteArray), (⟨#[116, 101, 120, 116]⟩ : ByteArray), (⟨#[98, 111, 111, 108]⟩ : ByteArray), (⟨#[116, 97, 98, 108, 101]⟩ : ByteArray), (⟨#[115, 116, 114, 101, 97, 109]⟩ : ByteArray), (⟨#[119, 105, 110, 100, 111, 119]⟩ : ByteArray), (⟨#[115, 105, 110, 107]⟩ : ByteArray), (⟨#[112, 114, 111, 99]⟩ : ByteArray), (⟨#[107, 101, 121]⟩ : ByteArray), (⟨#[117, 110, 105, 113, 117, 101]⟩ : ByteArray), (⟨#[105, 110, 100, 101, 120]⟩ : ByteArray), (⟨#[112, 97, 114, 116, 115]⟩ : ByteArray), (⟨#[98, 121]⟩ : ByteArray), (⟨#[111, 110]⟩ : ByteArray), (⟨#[102, 114, 111, 109]⟩ : ByteArray), (⟨#[97, 116]⟩ : ByteArray), (⟨#[102, 117, 101, 108]⟩ : ByteArray), (⟨#[116, 117, 112, 108, 101, 115]⟩ : ByteArray), (⟨#[98, 97, 116, 99, 104, 101, 115]⟩ : ByteArray), (⟨#[115, 108, 105, 100, 101]⟩ : ByteArray)]) ((AE e_c AZ (As f_d AK) rfl (AE e_c AZ (As f_d AK) rfl (AE e_c AZ (As f_d AK) rfl (AE e_c AZ (As f_d AK) rfl (AE e_c AZ (As f_d AK) rfl (AE e_c AZ (As f_d AK) rfl (AE e_c AZ (As f_d AK) rfl (AE e_c AZ (As f_d AK) rfl (AE e_c AZ (As f_d AK) rfl (AE e_c AZ (As f_d AK) rfl (AE e_c AZ (As f_d AK) rfl (AE e_c AZ (As f_d AK) rfl (AE e_c AZ (As f_d AK) rfl (AE e_c AZ (As f_d AK) rfl (AE e_c AZ (As f_d AK) rfl (AE e_c AZ (As f_d AK) rfl (AE e_c AZ (As f_d AK) rfl (AE e_c AZ (As f_d AK) rfl (AE e_c AZ (As f_d AK) rfl (AE e_c AZ (As f_d AK) rfl (AE e_c AZ (As f_d AK) rfl (AE e_c AZ (As f_d AK) rfl (AE e_c AZ (As f_d AK) rfl (AE e_c AZ (As f_d AK) rfl (AE e_c AZ (As f_d AK) rfl (AE e_c AZ (As f_d AK) rfl (AE e_c AZ (As f_d AK) rfl (AE e_c AZ (As f_d AK) rfl (AE e_c AZ (As f_d AK) rfl (AE e_c AZ (As f_d AK) rfl (AE e_c AZ (As f_d AK) rfl (AE e_c AZ (As f_d AK) rfl (AE e_c AZ (As f_d AK) rfl (AE e_c AZ (As f_d AK) rfl (AE e_c AZ (As f_d AK) rfl (AE e_c AZ (As f_d AK) rfl (AE e_c AZ (As f_d AK) rfl (AE e_c AZ (As f_d AK) rfl (AE e_c AZ (As f_d AK) rfl (AE e_c AZ (As f_d AK) rfl (AE e_c AZ (As f_d AK) rfl (AE e_c AZ (As f_d AK) rfl (AE e_c AZ (As f_d AK) rfl DV)))))))))))))))))))))))))))))))))))))))))))) ?_
 refine Ab (e_t eh) (Aa (Ae (Al (Al (Af ?_)))))
 unfold QN
 refine Ab e_c (Aa (Ae ?_))
 refine AX ?_
 refine Ca (fun m f st' => ∃ (v1 : Int), BB p0 m v1 = some r ∧ f 0 = (.d (.str p0)) ∧ f 3 = (.ex (List.map rS ([(⟨#[97, 110, 100]⟩ : ByteArray), (⟨#[111, 114]⟩ : ByteArray), (⟨#[110, 111, 116]⟩ : ByteArray), (⟨#[116, 114, 117, 101]⟩ : ByteArray), (⟨#[102, 97, 108, 115, 101]⟩ : ByteArray), (⟨#[108, 101, 116]⟩ : ByteArray), (⟨#[115, 101, 116]⟩ : ByteArray), (⟨#[105, 110, 115, 101, 114, 116]⟩ : ByteArray), (⟨#[117, 112, 100, 97, 116, 101]⟩ : ByteArray), (⟨#[100, 101, 108, 101, 116, 101]⟩ : ByteArray), (⟨#[102, 111, 114]⟩ : ByteArray), (⟨#[105, 110]⟩ : ByteArray), (⟨#[119, 104, 101, 114, 101]⟩ : ByteArray), (⟨#[108, 105, 109, 105, 116]⟩ : ByteArray), (⟨#[105, 102]⟩ : ByteArray), (⟨#[101, 108, 115, 101]⟩ : ByteArray), (⟨#[101, 109, 105, 116]⟩ : ByteArray), (⟨#[97, 98, 111, 114, 116]⟩ : ByteArray), (⟨#[114, 101, 112, 108, 121]⟩ : ByteArray), (⟨#[99, 111, 117, 110, 116]⟩ : ByteArray), (⟨#[115, 117, 109]⟩ : ByteArray), (⟨#[109, 105, 110]⟩ : ByteArray), (⟨#[109, 97, 120]⟩ : ByteArray), (⟨#[105, 110, 116]⟩ : ByteArray), (⟨#[116, 101, 120, 116]⟩ : ByteArray), (⟨#[98, 111, 111, 108]⟩ : ByteArray), (⟨#[116, 97, 98, 108, 101]⟩ : ByteArray), (⟨#[115, 116, 114, 101, 97, 109]⟩ : ByteArray), (⟨#[119, 105, 110, 100, 111, 119]⟩ : ByteArray), (⟨#[115, 105, 110, 107]⟩ : ByteArray), (⟨#[112, 114, 111, 99]⟩ : ByteArray), (⟨#[107, 101, 121]⟩ : ByteArray), (⟨#[117, 110, 105, 113, 117, 101]⟩ : ByteArray), (⟨#[105, 110, 100, 101, 120]⟩ : ByteArray), (⟨#[112, 97, 114, 116, 115]⟩ : ByteArray), (⟨#[98, 121]⟩ : ByteArray), (⟨#[111, 110]⟩ : ByteArray), (⟨#[102, 114, 111, 109]⟩ : ByteArray), (⟨#[97, 116]⟩ : ByteArray), (⟨#[102, 117, 101, 108]⟩ : ByteArray), (⟨#[116, 117, 112, 108, 101, 115]⟩ : ByteArray), (⟨#[98, 97, 116, 99, 104, 101, 115]⟩ : ByteArray), (⟨#[115, 108, 105, 100, 101]⟩ : ByteArray)]))) ∧ f 4 = (.d (.int .i64 v1)) ∧ st' = st ++ []) n (Ghost.refl _) ⟨(0 : Int), hr, (Ad rfl eh), (em rfl eh), eh, rfl⟩ ?_
 rintro m f st' ⟨v1, hr, h0, h3, h4, rfl⟩
 cases m with
 | zero => cases hr
 | succ m_0 =>
   rw [BB] at hr
   generalize hrec_0 : BB p0 m_0 = q0 at hr
   rw [EI] at hr
   unfold QZ
   refine Al (Al (Af ?_))
   unfold Qa
   refine Ab (e_t h4) (Ab (e_t (em rfl h3)) ?_)
   refine Bh (row := rS) (AL (e_t eh) KJ) ?_
   refine Ar (e_t (Ac rfl eh)) (e_t eh) (CL ?_)
   refine Aa (Ae ?_)
   refine AC (e_t eh) hr (fun hr => ?_) (fun hr => ?_)
   rotate_left
   · refine CP ?_
     refine A0 ?_
     refine A0 ?_
     refine Ea ?_
     refine Ae (Al (Af ?_))
     unfold Qu
     refine Ab e_c (Aa (Ae (AI ?_)))
     cases hr
     exact A7 (AF eh AH) (AM AG v_d) (Av hwf) h
   refine AN (Ae (Al ?_))
   refine AX ?_
   refine Al (Af ?_)
   unfold QE
   refine Ab (e_t (Ad rfl h3)) (Ab (e_t (Ad rfl (em rfl h4))) ?_)
   refine Bt (row := rS) (AL (e_t (em rfl eh)) KJ) (e_t eh) hr (fun _ => rfl) (fun _ => rfl) (fun v2 hr => ?_)
   refine BG (e_t eh) (by exact rfl) ?_
   refine Ab (e_t (Ad rfl (Ad rfl h0))) ?_
   refine Ar (e_t (em rfl eh)) (e_t eh) (Db ?_)
   refine Aa (Ae ?_)
   refine AC (e_t eh) hr (fun hr => ?_) (fun hr => ?_)
   rotate_left
   · refine AN ?_
     refine BA ?_
     refine Ae (Af ?_)
     unfold QP
     refine Ab (e_t (Ak rfl (Ac rfl h4))) ?_
     refine Ar (e_t eh) e_c (BX ?_)
     refine Ab (e_t eh) (Aa (Ae ?_))
     exact ⟨m_0, _, Nat.lt_succ_self m_0, Ghost.refl _, (IntKind.wrap .i64 (v1 + (1 : Int))), (by rw [hrec_0]; exact hr), (Ak rfl (Ad rfl (em rfl h0))), (Ak rfl (Ad rfl (em rfl h3))), eh, rfl⟩
   refine Al (Af ?_)
   unfold Q2
   refine Ab e_c (Aa (Ae (AI ?_)))
   refine BE ?_
   refine AA (AA ?_)
   refine BE ?_
   refine AA ?_
   cases hr
   exact A7 (AF eh AH) (AM AG v_d) (Av hwf) h
end Go.Ax
