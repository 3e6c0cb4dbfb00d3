import Derived.Test.YtojkpenjeglipaaPYT
import Derived.Test.YtojkpenjeglipaaPCVX
import Derived.Test.YtojkpenjeglipaaPCPrim
import Derived.Test.YtojkpenjeglipaaPYD1
import Derived.Test.YtojkpenjeglipaaPYD7
import Derived.Test.YtojkpenjeglipaaPYD9
set_option linter.unusedVariables false
set_option linter.unusedSimpArgs false
namespace Go.Ax
attribute [local irreducible] BQ EX FK Bg CQ FI B8 Le Ii upd ev u0 Dw frz A9 EK mmD bnd B2 FD Dq CR G3 HS Hg cutV JT Cy
variable {st : List Content}
def KE (n : Nat) (p0 : TP) : Option (List ByteArray) :=
 ((Kt n p0).bind fun v1 => ((Kg v1.1).bind fun v2 => some v2))
set_option maxRecDepth 100000 in
set_option maxHeartbeats 4000000 in
theorem ZE (n : Nat) (p0 : TP) {r : (List ByteArray)} (hr : KE n p0 = some r) {K : PV → List Content → Prop} (h : K (.d (.sl (List.map rS r))) st) : Av PR VP [(.agg [(.d (.str p0.Name)), (.d (.str p0.From)), (.d (.str p0.At)), (.d (.int .i64 p0.Fuel)), (.d (.sl (List.map T_api_Column.row p0.Params))), (.d (.sl (List.map TS.row p0.Body)))])] st K := by
 refine Av.of AR8 (Nat.le_of_ble_eq_true rfl) fun hwf => ?_
 rw [B5]
 refine AQ ?_
 unfold Av9
 rw [KE] at hr
 refine Al (Af ?_)
 unfold Xp
 refine Gq (k := 0) rfl rfl (e_t eh) Bf (by exact rfl) ?_
 refine Ab e_c (Aa (Ae (Al (Af ?_))))
 unfold X5
 refine Bw (e_t (em rfl eh)) ((Am rfl 0).trans rfl) (Nat.le_of_ble_eq_true rfl) (by exact rfl) ?_
 obtain ⟨v1, hc_v1, hr⟩ := bind_some hr
 refine AJ (Ar (e_t eh) (Bx (Aq f_d (Aq f_d (Aq f_d (Aq f_d (Aq f_d (Aq f_d B3))))))) AM) ?_
 refine Aq4 n p0 hc_v1 (m := st.length + 1) (by simp) (List.append_assoc _ _ _) ?_
 refine An4 (e_t eh) (by exact rfl) ?_
 refine AJ (Ar (e_t eh) AC7 AM) ?_
 refine (Aq2 (n0 := st.length) (k := 6) rfl rfl (by simp)).mono ?_
 rintro _ _ ⟨rfl, rfl⟩
 obtain ⟨v2, hc_v2, hr⟩ := bind_some hr
 refine AJ (Ar (e_t eh) K7 AM) ?_
 refine QP ((Am rfl 6).trans rfl) ((Am rfl 3).trans rfl) hc_v2 ?_
 refine Ab (e_t eh) (Aa (Ae (AI ?_)))
 cases hr
 exact A7 (AG eh AH) (AN AF v_d) (Ay hwf) h
def MY (p0 : (List ByteArray)) (p1 : (List ByteArray)) (q0 : Int → Option Bool) (v2 : Int) : Option Bool :=
 (bif (decide (v2 < (p0.length : Int))) then ((Dd p0 v2).bind fun v3 => ((Dd p1 v2).bind fun v4 => (bif (!decide (v3 = v4)) then some false else q0 (IntKind.wrap .i64 (v2 + (1 : Int)))))) else some true)
def Ge (p0 : (List ByteArray)) (p1 : (List ByteArray)) : Nat → Int → Option Bool
 | 0, _ => none
 | m + 1, v2 => MY p0 p1 (Ge p0 p1 m) v2
def H9 (n : Nat) (p0 : (List ByteArray)) (p1 : (List ByteArray)) : Option Bool :=
 (bif (!decide ((p0.length : Int) = (p1.length : Int))) then some false else (Ge p0 p1 n (0 : Int)))
set_option maxRecDepth 100000 in
set_option maxHeartbeats 4000000 in
theorem MH (n : Nat) (p0 : (List ByteArray)) (p1 : (List ByteArray)) {r : Bool} (hr : H9 n p0 p1 = some r) {K : PV → List Content → Prop} (h : K (.d (.bool r)) st) : Av PR O6 [(.d (.sl (List.map rS p0))), (.d (.sl (List.map rS p1)))] st K := by
 refine Av.of AS1 (Nat.le_of_ble_eq_true rfl) fun hwf => ?_
 rw [Ed]
 refine AQ ?_
 unfold AF7
 rw [H9] at hr
 refine Al (Af ?_)
 unfold Zo
 refine Ab e_c (Aa (Ae (Al (Al (Af ?_)))))
 unfold YP
 refine Ab (e_t (em rfl eh)) ?_
 refine Bh (row := rS) (AP (e_t eh) Bt) ?_
 refine Ab (e_t (Ad rfl eh)) ?_
 refine Bh (row := rS) (AP (e_t eh) Bt) ?_
 refine As (e_t (Ac rfl eh)) (e_t eh) (SP ?_)
 refine Aa (Ae ?_)
 refine AC (e_t eh) hr (fun hr => ?_) (fun hr => ?_)
 · refine Al (Af ?_)
   unfold Y0
   refine Ab e_c (Aa (Ae (AI (AA ?_))))
   cases hr
   exact A7 (AG eh AH) (AN AF v_d) (Ay hwf) h
 refine AO (Ae (Al (Al (Af ?_))))
 unfold YN
 refine Ab e_c (Aa (Ae ?_))
 refine AT ?_
 refine BX (fun m f st' => ∃ (v2 : Int), Ge p0 p1 m v2 = some r ∧ f 0 = (.d (.sl (List.map rS p0))) ∧ f 1 = (.d (.sl (List.map rS p1))) ∧ f 5 = (.d (.int .i64 v2)) ∧ st' = st ++ []) n (Ghost.refl _) ⟨(0 : Int), hr, (Ad rfl (Ac rfl (em rfl eh))), (Ad rfl (Ad rfl eh)), eh, rfl⟩ ?_
 rintro m f st' ⟨v2, hr, h0, h1, h5, rfl⟩
 cases m with
 | zero => cases hr
 | succ m_0 =>
   rw [Ge] at hr
   generalize hrec_0 : Ge p0 p1 m_0 = q0 at hr
   rw [MY] at hr
   unfold YG
   refine Al (Al (Af ?_))
   unfold Zx
   refine Ab (e_t h5) (Ab (e_t (em rfl h0)) ?_)
   refine Bh (row := rS) (AP (e_t eh) Bt) ?_
   refine As (e_t (Ac rfl eh)) (e_t eh) (CM ?_)
   refine Aa (Ae ?_)
   refine AC (e_t eh) hr (fun hr => ?_) (fun hr => ?_)
   rotate_left
   · refine CG ?_
     refine AW ?_
     refine AW ?_
     refine DF ?_
     refine Ae (Al (Af ?_))
     unfold ZK
     refine Ab e_c (Aa (Ae (AI ?_)))
     cases hr
     exact A7 (AG eh AH) (AN AF v_d) (Ay hwf) h
   refine AO (Ae (Al ?_))
   refine AT ?_
   refine Al ?_
   refine DP (k := 0) rfl rfl ?_
   unfold Y7
   refine Ab (e_t (Ad rfl h0)) (Ab (e_t (Ad rfl (em rfl h5))) ?_)
   refine Br (row := rS) (AP (e_t (em rfl eh)) Bt) (e_t eh) hr (fun _ => rfl) (fun _ => rfl) (fun v3 hr => ?_)
   refine BI (e_t eh) (by exact rfl) ?_
   refine Ab (e_t (Ad rfl (Ad rfl h1))) (Ab (e_t (Ak rfl (em rfl h5))) ?_)
   refine Br (row := rS) (AP (e_t (em rfl eh)) Bt) (e_t eh) hr (fun _ => rfl) (fun _ => rfl) (fun v4 hr => ?_)
   refine BI (e_t eh) (by exact rfl) ?_
   refine As (e_t (Ad rfl eh)) (e_t eh) (MD ?_)
   refine Aa (Ae ?_)
   refine AC (e_t eh) hr (fun hr => ?_) (fun hr => ?_)
   rotate_left
   · refine AO ?_
     refine BB ?_
     refine Ae (Af ?_)
     unfold YK
     refine Ab (e_t (Ak rfl (Ad rfl (em rfl h5)))) ?_
     refine As (e_t eh) e_c (BU ?_)
     refine Ab (e_t eh) (Aa (Ae ?_))
     exact ⟨m_0, _, Nat.lt_succ_self m_0, Ghost.refl _, (IntKind.wrap .i64 (v2 + (1 : Int))), (by rw [hrec_0]; exact hr), (Ak rfl (Ad rfl (Ad rfl h0))), (Ak rfl (Ad rfl (Ad rfl h1))), eh, rfl⟩
   refine Al (Af ?_)
   unfold ZT
   refine Ab e_c (Aa (Ae (AI ?_)))
   refine BH ?_
   refine AA (AA ?_)
   refine BH ?_
   refine AA ?_
   cases hr
   exact A7 (AG eh AH) (AN AF v_d) (Ay hwf) h
def I4 (n : Nat) (p0 : TP) : Option (List ByteArray) :=
 ((Kt n p0).bind fun v1 => ((Kg v1.2.1).bind fun v2 => some v2))
set_option maxRecDepth 100000 in
set_option maxHeartbeats 4000000 in
theorem Wh (n : Nat) (p0 : TP) {r : (List ByteArray)} (hr : I4 n p0 = some r) {K : PV → List Content → Prop} (h : K (.d (.sl (List.map rS r))) st) : Av PR RK [(.agg [(.d (.str p0.Name)), (.d (.str p0.From)), (.d (.str p0.At)), (.d (.int .i64 p0.Fuel)), (.d (.sl (List.map T_api_Column.row p0.Params))), (.d (.sl (List.map TS.row p0.Body)))])] st K := by
 refine Av.of AI3 (Nat.le_of_ble_eq_true rfl) fun hwf => ?_
 rw [B5]
 refine AQ ?_
 unfold Aj6
 rw [I4] at hr
 refine Al (Af ?_)
 unfold TU
 refine Gq (k := 0) rfl rfl (e_t eh) Bf (by exact rfl) ?_
 refine Ab e_c (Aa (Ae (Al (Af ?_))))
 unfold Vs
 refine Bw (e_t (em rfl eh)) ((Am rfl 0).trans rfl) (Nat.le_of_ble_eq_true rfl) (by exact rfl) ?_
 obtain ⟨v1, hc_v1, hr⟩ := bind_some hr
 refine AJ (Ar (e_t eh) (Bx (Aq f_d (Aq f_d (Aq f_d (Aq f_d (Aq f_d (Aq f_d B3))))))) AM) ?_
 refine Aq4 n p0 hc_v1 (m := st.length + 1) (by simp) (List.append_assoc _ _ _) ?_
 refine An4 (e_t eh) (by exact rfl) ?_
 refine AJ (Ar (e_t eh) AC7 AM) ?_
 refine (Aq2 (n0 := st.length) (k := 6) rfl rfl (by simp)).mono ?_
 rintro _ _ ⟨rfl, rfl⟩
 obtain ⟨v2, hc_v2, hr⟩ := bind_some hr
 refine AJ (Ar (e_t eh) K7 AM) ?_
 refine QP ((Am rfl 6).trans rfl) ((Am rfl 4).trans rfl) hc_v2 ?_
 refine Ab (e_t eh) (Aa (Ae (AI ?_)))
 cases hr
 exact A7 (AG eh AH) (AN AF v_d) (Ay hwf) h
def MX (v0 : (Int × Int)) (v7 : Bool) : Option Bool :=
 (bif v7 then (bif (decide (v0.1 = (2 : Int))) then some (decide (v0.2 = (2 : Int))) else some false) else some false)
def MZ (n : Nat) (v0 : (Int × Int)) (v4 : Bool) : Option Bool :=
 (bif v4 then ((I4 n (⟨(⟨#[112]⟩ : ByteArray), (⟨#[]⟩ : ByteArray), (⟨#[]⟩ : ByteArray), (1 : Int), [], [(⟨(5 : Int), (⟨#[97]⟩ : ByteArray), (⟨#[116]⟩ : ByteArray), (0 : Int), [], [(⟨(3 : Int), (1 : Int), (⟨#[]⟩ : ByteArray), (⟨#[]⟩ : ByteArray), (⟨#[]⟩ : ByteArray), []⟩ : TE)], [], []⟩ : TS)]⟩ : TP)).bind fun v5 => ((H9 n v5 ([(⟨#[116]⟩ : ByteArray)])).bind fun v6 => (MX v0 v6))) else (MX v0 false))
def LN (n : Nat)  : Option Bool :=
 ((Pn n (⟨(⟨#[112]⟩ : ByteArray), (⟨#[]⟩ : ByteArray), (⟨#[]⟩ : ByteArray), (1 : Int), [], [(⟨(5 : Int), (⟨#[97]⟩ : ByteArray), (⟨#[116]⟩ : ByteArray), (0 : Int), [], [(⟨(3 : Int), (1 : Int), (⟨#[]⟩ : ByteArray), (⟨#[]⟩ : ByteArray), (⟨#[]⟩ : ByteArray), []⟩ : TE)], [], []⟩ : TS)]⟩ : TP)).bind fun v0 => ((Je n (⟨(⟨#[112]⟩ : ByteArray), (⟨#[]⟩ : ByteArray), (⟨#[]⟩ : ByteArray), (1 : Int), [], [(⟨(5 : Int), (⟨#[97]⟩ : ByteArray), (⟨#[116]⟩ : ByteArray), (0 : Int), [], [(⟨(3 : Int), (1 : Int), (⟨#[]⟩ : ByteArray), (⟨#[]⟩ : ByteArray), (⟨#[]⟩ : ByteArray), []⟩ : TE)], [], []⟩ : TS)]⟩ : TP)).bind fun v1 => (bif v1 then ((KE n (⟨(⟨#[112]⟩ : ByteArray), (⟨#[]⟩ : ByteArray), (⟨#[]⟩ : ByteArray), (1 : Int), [], [(⟨(5 : Int), (⟨#[97]⟩ : ByteArray), (⟨#[116]⟩ : ByteArray), (0 : Int), [], [(⟨(3 : Int), (1 : Int), (⟨#[]⟩ : ByteArray), (⟨#[]⟩ : ByteArray), (⟨#[]⟩ : ByteArray), []⟩ : TE)], [], []⟩ : TS)]⟩ : TP)).bind fun v2 => ((H9 n v2 ([(⟨#[116]⟩ : ByteArray)])).bind fun v3 => (MZ n v0 v3))) else (MZ n v0 false))))
set_option maxRecDepth 100000 in
set_option maxHeartbeats 4000000 in
theorem Y9 (n : Nat)  {r : Bool} (hr : LN n = some r) {K : PV → List Content → Prop} (h : K (.d (.bool r)) st) : Av PR Tq [] st K := by
 refine Av.of AO0 (Nat.le_of_ble_eq_true rfl) fun hwf => ?_
 rw [AH0]
 refine AQ ?_
 unfold Aw6
 rw [LN] at hr
 refine Al (Af ?_)
 unfold X3
 refine Ab e_c (Aa (Ae (Al (Af ?_))))
 unfold Xy
 refine II (cs := [(.d (.int .i64 (3 : Int))), (.d (.int .i64 (1 : Int))), (.d (.str (⟨#[]⟩ : ByteArray))), (.d (.str (⟨#[]⟩ : ByteArray))), (.d (.str (⟨#[]⟩ : ByteArray))), (.ex [])]) (Co e_c A0 rfl (Nat.le_of_ble_eq_true rfl) (by exact rfl) (Co e_c A0 rfl (Nat.le_of_ble_eq_true rfl) (by exact rfl) KW)) (Cm e_c A0 (by exact rfl) (Cm e_c A0 (by exact rfl) KQ)) ?_
 refine Cn (k := 0) rfl rfl ?_
 refine Bl (e_t eh) ((Am rfl 0).trans rfl) (e_t (em rfl eh)) Bf rfl (Nat.le_of_ble_eq_true rfl) (by exact rfl) (cells' := [(.d (.int .i64 (3 : Int))), (.d (.int .i64 (1 : Int))), (.d (.str (⟨#[]⟩ : ByteArray))), (.d (.str (⟨#[]⟩ : ByteArray))), (.d (.str (⟨#[]⟩ : ByteArray))), (.ex [])]) (by exact rfl) (Bo rfl _ _) ?_
 refine Aa (Ae (Al (Af ?_)))
 unfold XO
 refine Bw (e_t eh) ((Am rfl 0).trans rfl) (Nat.le_of_ble_eq_true rfl) (by exact rfl) ?_
 refine Db (rows := List.map TE.row [(⟨(3 : Int), (1 : Int), (⟨#[]⟩ : ByteArray), (⟨#[]⟩ : ByteArray), (⟨#[]⟩ : ByteArray), []⟩ : TE)]) (Li (by simp only [List.map, TE.row_eq]) (AE (e_t eh) Bf (Aw f_d (Aw f_d (Aw f_d (Aw f_d (Aw f_d (Aw VA AL)))))) rfl Eg)) ?_
 refine II (cs := [(.d (.int .i64 (5 : Int))), (.d (.str (⟨#[97]⟩ : ByteArray))), (.d (.str (⟨#[116]⟩ : ByteArray))), (.d (.int .i64 (0 : Int))), (.ex []), (.ex (List.map TE.row ([(⟨(3 : Int), (1 : Int), (⟨#[]⟩ : ByteArray), (⟨#[]⟩ : ByteArray), (⟨#[]⟩ : ByteArray), []⟩ : TE)]))), (.ex []), (.ex [])]) (Co e_c A0 rfl (Nat.le_of_ble_eq_true rfl) (by exact rfl) (Co e_c A0 rfl (Nat.le_of_ble_eq_true rfl) (by exact rfl) (Co e_c A0 rfl (Nat.le_of_ble_eq_true rfl) (by exact rfl) (Co (e_t eh) rfl rfl (Nat.le_of_ble_eq_true rfl) (by exact rfl) KW)))) (Cm e_c A0 (by exact rfl) (Cm e_c A0 (by exact rfl) (Cm e_c A0 (by exact rfl) (Cm (e_t eh) rfl (by exact rfl) KQ)))) ?_
 refine Db (rows := List.map TS.row [(⟨(5 : Int), (⟨#[97]⟩ : ByteArray), (⟨#[116]⟩ : ByteArray), (0 : Int), [], [(⟨(3 : Int), (1 : Int), (⟨#[]⟩ : ByteArray), (⟨#[]⟩ : ByteArray), (⟨#[]⟩ : ByteArray), []⟩ : TE)], [], []⟩ : TS)]) (Li (by simp only [List.map, TS.row_eq]) (AE (e_t eh) Bf (Aw f_d (Aw f_d (Aw f_d (Aw f_d (Aw VA (Aw VA (Aw VA (Aw VA AL)))))))) rfl Eg)) ?_
 refine II (cs := [(.d (.str (⟨#[112]⟩ : ByteArray))), (.d (.str (⟨#[]⟩ : ByteArray))), (.d (.str (⟨#[]⟩ : ByteArray))), (.d (.int .i64 (1 : Int))), (.ex []), (.ex (List.map TS.row ([(⟨(5 : Int), (⟨#[97]⟩ : ByteArray), (⟨#[116]⟩ : ByteArray), (0 : Int), [], [(⟨(3 : Int), (1 : Int), (⟨#[]⟩ : ByteArray), (⟨#[]⟩ : ByteArray), (⟨#[]⟩ : ByteArray), []⟩ : TE)], [], []⟩ : TS)])))]) (Co e_c A0 rfl (Nat.le_of_ble_eq_true rfl) (by exact rfl) (Co e_c A0 rfl (Nat.le_of_ble_eq_true rfl) (by exact rfl) (Co (e_t eh) rfl rfl (Nat.le_of_ble_eq_true rfl) (by exact rfl) KW))) (Cm e_c A0 (by exact rfl) (Cm e_c A0 (by exact rfl) (Cm (e_t eh) rfl (by exact rfl) KQ))) ?_
 refine Cn (k := 1) rfl rfl ?_
 refine Bl (e_t eh) ((Am rfl 1).trans rfl) (e_t (em rfl eh)) Bf rfl (Nat.le_of_ble_eq_true rfl) (by exact rfl) (cells' := [(.d (.str (⟨#[112]⟩ : ByteArray))), (.d (.str (⟨#[]⟩ : ByteArray))), (.d (.str (⟨#[]⟩ : ByteArray))), (.d (.int .i64 (1 : Int))), (.ex []), (.ex (List.map TS.row ([(⟨(5 : Int), (⟨#[97]⟩ : ByteArray), (⟨#[116]⟩ : ByteArray), (0 : Int), [], [(⟨(3 : Int), (1 : Int), (⟨#[]⟩ : ByteArray), (⟨#[]⟩ : ByteArray), (⟨#[]⟩ : ByteArray), []⟩ : TE)], [], []⟩ : TS)])))]) (by exact rfl) (Bo rfl _ _) ?_
 refine Aa (Ae (Al (Af ?_)))
 unfold X1
 refine Bw (e_t eh) ((Am rfl 1).trans rfl) (Nat.le_of_ble_eq_true rfl) (by exact rfl) ?_
 obtain ⟨v0, hc_v0, hr⟩ := bind_some hr
 refine AJ (Ar (e_t eh) (Bx (Aq f_d (Aq f_d (Aq f_d (Aq f_d (Aq VA (Aq VA B3))))))) AM) ?_
 refine AG8 n (⟨(⟨#[112]⟩ : ByteArray), (⟨#[]⟩ : ByteArray), (⟨#[]⟩ : ByteArray), (1 : Int), [], [(⟨(5 : Int), (⟨#[97]⟩ : ByteArray), (⟨#[116]⟩ : ByteArray), (0 : Int), [], [(⟨(3 : Int), (1 : Int), (⟨#[]⟩ : ByteArray), (⟨#[]⟩ : ByteArray), (⟨#[]⟩ : ByteArray), []⟩ : TE)], [], []⟩ : TS)]⟩ : TP) hc_v0 ?_
 refine Ab (e_t eh) ?_
 refine HP (e_t eh) (by exact rfl) ?_
 refine HP (e_t (em rfl eh)) (by exact rfl) ?_
 refine Ab (e_t (em rfl eh)) (Ab (e_t (em rfl eh)) (Aa (Ae (Al (Af ?_)))))
 unfold XJ
 refine A1 (fun f st' => ∃ (v4 : Bool), MZ n v0 v4 = some r ∧ f 2 = (.ptr (st.length + 1) 0) ∧ f 3 = (.d (.int .i64 v0.1)) ∧ f 4 = (.d (.int .i64 v0.2)) ∧ f 23 = (.d (.bool v4)) ∧ st' = st ++ [(.box [(.d (.int .i64 (3 : Int))), (.d (.int .i64 (1 : Int))), (.d (.str (⟨#[]⟩ : ByteArray))), (.d (.str (⟨#[]⟩ : ByteArray))), (.d (.str (⟨#[]⟩ : ByteArray))), (.ex [])]), (.box [(.d (.str (⟨#[112]⟩ : ByteArray))), (.d (.str (⟨#[]⟩ : ByteArray))), (.d (.str (⟨#[]⟩ : ByteArray))), (.d (.int .i64 (1 : Int))), (.ex []), (.ex (List.map TS.row ([(⟨(5 : Int), (⟨#[97]⟩ : ByteArray), (⟨#[116]⟩ : ByteArray), (0 : Int), [], [(⟨(3 : Int), (1 : Int), (⟨#[]⟩ : ByteArray), (⟨#[]⟩ : ByteArray), (⟨#[]⟩ : ByteArray), []⟩ : TE)], [], []⟩ : TS)])))])]) ?_ ?_
 · unfold Sf
   refine Bw (e_t (Ad rfl (Ac rfl (em rfl eh)))) ((Am rfl 1).trans rfl) (Nat.le_of_ble_eq_true rfl) (by exact rfl) ?_
   obtain ⟨v1, hc_v1, hr⟩ := bind_some hr
   refine AJ (Ar (e_t eh) (Bx (Aq f_d (Aq f_d (Aq f_d (Aq f_d (Aq VA (Aq VA B3))))))) AM) ?_
   refine Tn n (⟨(⟨#[112]⟩ : ByteArray), (⟨#[]⟩ : ByteArray), (⟨#[]⟩ : ByteArray), (1 : Int), [], [(⟨(5 : Int), (⟨#[97]⟩ : ByteArray), (⟨#[116]⟩ : ByteArray), (0 : Int), [], [(⟨(3 : Int), (1 : Int), (⟨#[]⟩ : ByteArray), (⟨#[]⟩ : ByteArray), (⟨#[]⟩ : ByteArray), []⟩ : TE)], [], []⟩ : TS)]⟩ : TP) hc_v1 ?_
   refine Ab (e_t eh) ?_
   refine Au eh hr (fun hr => ?_) (fun hr => ?_)
   rotate_left
   · refine Ag eh (Ag (em rfl eh) (Ag (Ac rfl eh) (Ag (Ac rfl (em rfl eh)) (Ao (e_t (Ad rfl eh)) e_c (Aa ?_)))))
     exact ⟨false, hr, (Ak rfl (Ad rfl (Ad rfl eh))), (Ak rfl (Ac rfl eh)), (Ak rfl (em rfl eh)), eh, rfl⟩
   refine Ai eh ?_
   refine Bw (e_t (Ak rfl (Ac rfl (em rfl eh)))) ((Am rfl 1).trans rfl) (Nat.le_of_ble_eq_true rfl) (by exact rfl) ?_
   refine Ai (em rfl eh) ?_
   obtain ⟨v2, hc_v2, hr⟩ := bind_some hr
   refine AJ (Ar (e_t eh) (Bx (Aq f_d (Aq f_d (Aq f_d (Aq f_d (Aq VA (Aq VA B3))))))) AM) ?_
   refine ZE n (⟨(⟨#[112]⟩ : ByteArray), (⟨#[]⟩ : ByteArray), (⟨#[]⟩ : ByteArray), (1 : Int), [], [(⟨(5 : Int), (⟨#[97]⟩ : ByteArray), (⟨#[116]⟩ : ByteArray), (0 : Int), [], [(⟨(3 : Int), (1 : Int), (⟨#[]⟩ : ByteArray), (⟨#[]⟩ : ByteArray), (⟨#[]⟩ : ByteArray), []⟩ : TE)], [], []⟩ : TS)]⟩ : TP) hc_v2 ?_
   refine Ai (Ac rfl eh) ?_
   refine Db (rows := List.map rS [(⟨#[116]⟩ : ByteArray)]) ((AE e_c A0 (Aw f_d AL) rfl Eg)) ?_
   refine Ai (Ac rfl (em rfl eh)) ?_
   obtain ⟨v3, hc_v3, hr⟩ := bind_some hr
   refine AJ (Ar (e_t (em rfl eh)) AF (Ar (e_t eh) K0 AM)) ?_
   refine MH n v2 ([(⟨#[116]⟩ : ByteArray)]) hc_v3 ?_
   refine An (e_t (Ad rfl eh)) (e_t eh) (Aa ?_)
   exact ⟨v3, hr, (Ak rfl (Ad rfl (Ad rfl eh))), (Ak rfl (Ac rfl eh)), (Ak rfl (em rfl eh)), eh, rfl⟩
 rintro f st' ⟨v4, hr, h2, h3, h4, h23, rfl⟩
 rw [MZ] at hr
 refine A1 (fun f st' => ∃ (v7 : Bool), MX v0 v7 = some r ∧ f 3 = (.d (.int .i64 v0.1)) ∧ f 4 = (.d (.int .i64 v0.2)) ∧ f 29 = (.d (.bool v7)) ∧ st' = st ++ [(.box [(.d (.int .i64 (3 : Int))), (.d (.int .i64 (1 : Int))), (.d (.str (⟨#[]⟩ : ByteArray))), (.d (.str (⟨#[]⟩ : ByteArray))), (.d (.str (⟨#[]⟩ : ByteArray))), (.ex [])]), (.box [(.d (.str (⟨#[112]⟩ : ByteArray))), (.d (.str (⟨#[]⟩ : ByteArray))), (.d (.str (⟨#[]⟩ : ByteArray))), (.d (.int .i64 (1 : Int))), (.ex []), (.ex (List.map TS.row ([(⟨(5 : Int), (⟨#[97]⟩ : ByteArray), (⟨#[116]⟩ : ByteArray), (0 : Int), [], [(⟨(3 : Int), (1 : Int), (⟨#[]⟩ : ByteArray), (⟨#[]⟩ : ByteArray), (⟨#[]⟩ : ByteArray), []⟩ : TE)], [], []⟩ : TS)])))])]) ?_ ?_
 · unfold Sv
   refine Ab (e_t h23) ?_
   refine Au eh hr (fun hr => ?_) (fun hr => ?_)
   rotate_left
   · refine Ag eh (Ag (em rfl eh) (Ag (Ac rfl eh) (Ag (Ac rfl (em rfl eh)) (Ao (e_t (Ad rfl eh)) e_c (Aa ?_)))))
     exact ⟨false, hr, (Ad rfl (Ac rfl (em rfl h3))), (Ad rfl (Ac rfl (em rfl h4))), eh, rfl⟩
   refine Ai eh ?_
   refine Bw (e_t (Ac rfl h2)) ((Am rfl 1).trans rfl) (Nat.le_of_ble_eq_true rfl) (by exact rfl) ?_
   refine Ai (em rfl eh) ?_
   obtain ⟨v5, hc_v5, hr⟩ := bind_some hr
   refine AJ (Ar (e_t eh) (Bx (Aq f_d (Aq f_d (Aq f_d (Aq f_d (Aq VA (Aq VA B3))))))) AM) ?_
   refine Wh n (⟨(⟨#[112]⟩ : ByteArray), (⟨#[]⟩ : ByteArray), (⟨#[]⟩ : ByteArray), (1 : Int), [], [(⟨(5 : Int), (⟨#[97]⟩ : ByteArray), (⟨#[116]⟩ : ByteArray), (0 : Int), [], [(⟨(3 : Int), (1 : Int), (⟨#[]⟩ : ByteArray), (⟨#[]⟩ : ByteArray), (⟨#[]⟩ : ByteArray), []⟩ : TE)], [], []⟩ : TS)]⟩ : TP) hc_v5 ?_
   refine Ai (Ac rfl eh) ?_
   refine Db (rows := List.map rS [(⟨#[116]⟩ : ByteArray)]) ((AE e_c A0 (Aw f_d AL) rfl Eg)) ?_
   refine Ai (Ac rfl (em rfl eh)) ?_
   obtain ⟨v6, hc_v6, hr⟩ := bind_some hr
   refine AJ (Ar (e_t (em rfl eh)) AF (Ar (e_t eh) K0 AM)) ?_
   refine MH n v5 ([(⟨#[116]⟩ : ByteArray)]) hc_v6 ?_
   refine An (e_t (Ad rfl eh)) (e_t eh) (Aa ?_)
   exact ⟨v6, hr, (Ad rfl (Ac rfl (em rfl h3))), (Ad rfl (Ac rfl (em rfl h4))), eh, rfl⟩
 rintro f st' ⟨v7, hr, h3, h4, h29, rfl⟩
 rw [MX] at hr
 refine Bn ?_
 unfold Sn
 refine Ab (e_t h29) ?_
 refine Au eh hr (fun hr => ?_) (fun hr => ?_)
 rotate_left
 · refine Ag eh (Ag (em rfl eh) (Ao (e_t (Ac rfl eh)) e_c (Aa ?_)))
   refine Bn ?_
   unfold NE
   refine Ab (e_t eh) (Ag eh (Ag (em rfl eh) (Ao (e_t (Ac rfl eh)) e_c (Aa ?_))))
   unfold Kw
   refine Ab (e_t eh) (Aa (Ae (AI ?_)))
   cases hr
   exact A7 (AG eh AH) (AN AF v_d) (Ay hwf) h
 refine Ai eh (Ab (e_t (Ac rfl h3)) (Ai (em rfl eh) ?_))
 refine As (e_t eh) e_c (BK ?_)
 refine An (e_t (Ac rfl eh)) (e_t eh) (Aa ?_)
 refine Bn ?_
 unfold NE
 refine Ab (e_t eh) ?_
 refine Au eh hr (fun hr => ?_) (fun hr => ?_)
 rotate_left
 · refine Ag eh (Ag (em rfl eh) (Ao (e_t (Ac rfl eh)) e_c (Aa ?_)))
   unfold Kw
   refine Ab (e_t eh) (Aa (Ae (AI ?_)))
   cases hr
   exact A7 (AG eh AH) (AN AF v_d) (Ay hwf) h
 refine Ai eh (Ab (e_t (Ad rfl (Ac rfl (em rfl h4)))) (Ai (em rfl eh) ?_))
 refine As (e_t eh) e_c (BK ?_)
 refine An (e_t (Ac rfl eh)) (e_t eh) (Aa ?_)
 unfold Kw
 refine Ab (e_t eh) (Aa (Ae (AI ?_)))
 cases hr
 exact A7 (AG eh AH) (AN AF v_d) (Ay hwf) h
def ES (p0 : ByteArray) (q0 : Int → Option Bool) (v1 : Int) : Option Bool :=
 (bif (decide (v1 < (([(⟨#[97, 110, 100]⟩ : ByteArray), (⟨#[111, 114]⟩ : ByteArray), (⟨#[110, 111, 116]⟩ : ByteArray), (⟨#[116, 114, 117, 101]⟩ : ByteArray), (⟨#[102, 97, 108, 115, 101]⟩ : ByteArray), (⟨#[108, 101, 116]⟩ : ByteArray), (⟨#[115, 101, 116]⟩ : ByteArray), (⟨#[105, 110, 115, 101, 114, 116]⟩ : ByteArray), (⟨#[117, 112, 100, 97, 116, 101]⟩ : ByteArray), (⟨#[100, 101, 108, 101, 116, 101]⟩ : ByteArray), (⟨#[102, 111, 114]⟩ : ByteArray), (⟨#[105, 110]⟩ : ByteArray), (⟨#[119, 104, 101, 114, 101]⟩ : ByteArray), (⟨#[108, 105, 109, 105, 116]⟩ : ByteArray), (⟨#[105, 102]⟩ : ByteArray), (⟨#[101, 108, 115, 101]⟩ : ByteArray), (⟨#[101, 109, 105, 116]⟩ : ByteArray), (⟨#[97, 98, 111, 114, 116]⟩ : ByteArray), (⟨#[114, 101, 112, 108, 121]⟩ : ByteArray), (⟨#[99, 111, 117, 110, 116]⟩ : ByteArray), (⟨#[115, 117, 109]⟩ : ByteArray), (⟨#[109, 105, 110]⟩ : ByteArray), (⟨#[109, 97, 120]⟩ : ByteArray), (⟨#[105, 110, 116]⟩ : ByteArray), (⟨#[116, 101, 120, 116]⟩ : ByteArray), (⟨#[98, 111, 111, 108]⟩ : ByteArray), (⟨#[116, 97, 98, 108, 101]⟩ : ByteArray), (⟨#[115, 116, 114, 101, 97, 109]⟩ : ByteArray), (⟨#[119, 105, 110, 100, 111, 119]⟩ : ByteArray), (⟨#[115, 105, 110, 107]⟩ : ByteArray), (⟨#[112, 114, 111, 99]⟩ : ByteArray), (⟨#[107, 101, 121]⟩ : ByteArray), (⟨#[117, 110, 105, 113, 117, 101]⟩ : ByteArray), (⟨#[105, 110, 100, 101, 120]⟩ : ByteArray), (⟨#[112, 97, 114, 116, 115]⟩ : ByteArray), (⟨#[98, 121]⟩ : ByteArray), (⟨#[111, 110]⟩ : ByteArray), (⟨#[102, 114, 111, 109]⟩ : ByteArray), (⟨#[97, 116]⟩ : ByteArray), (⟨#[102, 117, 101, 108]⟩ : ByteArray), (⟨#[116, 117, 112, 108, 101, 115]⟩ : ByteArray), (⟨#[98, 97, 116, 99, 104, 101, 115]⟩ : ByteArray), (⟨#[115, 108, 105, 100, 101]⟩ : ByteArray)]).length : Int))) then ((Dd ([(⟨#[97, 110, 100]⟩ : ByteArray), (⟨#[111, 114]⟩ : ByteArray), (⟨#[110, 111, 116]⟩ : ByteArray), (⟨#[116, 114, 117, 101]⟩ : ByteArray), (⟨#[102, 97, 108, 115, 101]⟩ : ByteArray), (⟨#[108, 101, 116]⟩ : ByteArray), (⟨#[115, 101, 116]⟩ : ByteArray), (⟨#[105, 110, 115, 101, 114, 116]⟩ : ByteArray), (⟨#[117, 112, 100, 97, 116, 101]⟩ : ByteArray), (⟨#[100, 101, 108, 101, 116, 101]⟩ : ByteArray), (⟨#[102, 111, 114]⟩ : ByteArray), (⟨#[105, 110]⟩ : ByteArray), (⟨#[119, 104, 101, 114, 101]⟩ : ByteArray), (⟨#[108, 105, 109, 105, 116]⟩ : ByteArray), (⟨#[105, 102]⟩ : ByteArray), (⟨#[101, 108, 115, 101]⟩ : ByteArray), (⟨#[101, 109, 105, 116]⟩ : ByteArray), (⟨#[97, 98, 111, 114, 116]⟩ : ByteArray), (⟨#[114, 101, 112, 108, 121]⟩ : ByteArray), (⟨#[99, 111, 117, 110, 116]⟩ : ByteArray), (⟨#[115, 117, 109]⟩ : ByteArray), (⟨#[109, 105, 110]⟩ : ByteArray), (⟨#[109, 97, 120]⟩ : ByteArray), (⟨#[105, 110, 116]⟩ : ByteArray), (⟨#[116, 101, 120, 116]⟩ : ByteArray), (⟨#[98, 111, 111, 108]⟩ : ByteArray), (⟨#[116, 97, 98, 108, 101]⟩ : ByteArray), (⟨#[115, 116, 114, 101, 97, 109]⟩ : ByteArray), (⟨#[119, 105, 110, 100, 111, 119]⟩ : ByteArray), (⟨#[115, 105, 110, 107]⟩ : ByteArray), (⟨#[112, 114, 111, 99]⟩ : ByteArray), (⟨#[107, 101, 121]⟩ : ByteArray), (⟨#[117, 110, 105, 113, 117, 101]⟩ : ByteArray), (⟨#[105, 110, 100, 101, 120]⟩ : ByteArray), (⟨#[112, 97, 114, 116, 115]⟩ : ByteArray), (⟨#[98, 121]⟩ : ByteArray), (⟨#[111, 110]⟩ : ByteArray), (⟨#[102, 114, 111, 109]⟩ : ByteArray), (⟨#[97, 116]⟩ : ByteArray), (⟨#[102, 117, 101, 108]⟩ : ByteArray), (⟨#[116, 117, 112, 108, 101, 115]⟩ : ByteArray), (⟨#[98, 97, 116, 99, 104, 101, 115]⟩ : ByteArray), (⟨#[115, 108, 105, 100, 101]⟩ : ByteArray)]) v1).bind fun v2 => (bif (decide (v2 = p0)) then some true else q0 (IntKind.wrap .i64 (v1 + (1 : Int))))) else some false)
def BF (p0 : ByteArray) : Nat → Int → Option Bool
 | 0, _ => none
 | m + 1, v1 => ES p0 (BF p0 m) v1
def F4 (n : Nat) (p0 : ByteArray) : Option Bool :=
 (BF p0 n (0 : Int))
set_option maxRecDepth 100000 in
set_option maxHeartbeats 4000000 in
theorem Av1 (n : Nat) (p0 : ByteArray) {r : Bool} (hr : F4 n p0 = some r) {K : PV → List Content → Prop} (h : K (.d (.bool r)) st) : Av PR QV [(.d (.str p0))] st K := by
 refine Av.of Az3 (Nat.le_of_ble_eq_true rfl) fun hwf => ?_
 rw [B5]
 refine AQ ?_
 unfold XB
 rw [F4] at hr
 refine Al (Af ?_)
 unfold RB
 refine Ab e_c (Aa (Ae (Al (Af ?_))))
 unfold Rk
 refine Db (rows := List.map rS [(⟨#[97, 110, 100]⟩ : ByteArray), (⟨#[111, 114]⟩ : ByteArray), (⟨#[110, 111, 116]⟩ : ByteArray), (⟨#[116, 114, 117, 101]⟩ : ByteArray), (⟨#[102, 97, 108, 115, 101]⟩ : ByteArray), (⟨#[108, 101, 116]⟩ : ByteArray), (⟨#[115, 101, 116]⟩ : ByteArray), (⟨#[105, 110, 115, 101, 114, 116]⟩ : ByteArray), (⟨#[117, 112, 100, 97, 116, 101]⟩ : ByteArray), (⟨#[100, 101, 108, 101, 116, 101]⟩ : ByteArray), (⟨#[102, 111, 114]⟩ : ByteArray), (⟨#[105, 110]⟩ : ByteArray), (⟨#[119, 104, 101, 114, 101]⟩ : ByteArray), (⟨#[108, 105, 109, 105, 116]⟩ : ByteArray), (⟨#[105, 102]⟩ : ByteArray), (⟨#[101, 108, 115, 101]⟩ : ByteArray), (⟨#[101, 109, 105, 116]⟩ : ByteArray), (⟨#[97, 98, 111, 114, 116]⟩ : ByteArray), (⟨#[114, 101, 112, 108, 121]⟩ : ByteArray), (⟨#[99, 111, 117, 110, 116]⟩ : ByteArray), (⟨#[115, 117, 109]⟩ : ByteArray), (⟨#[109, 105, 110]⟩ : ByteArray), (⟨#[109, 97, 120]⟩ : ByteArray), (⟨#[105, 110, 116]⟩ : ByteArray), (⟨#[116, 101, 120, 116]⟩ : ByteArray), (⟨#[98, 111, 111, 108]⟩ : ByteArray), (⟨#[116, 97, 98, 108, 101]⟩ : ByteArray), (⟨#[115, 116, 114, 101, 97, 109]⟩ : ByteArray), (⟨#[119, 105, 110, 100, 111, 119]⟩ : ByteArray), (⟨#[115, 105, 110, 107]⟩ : ByteArray), (⟨#[112, 114, 111, 99]⟩ : ByteArray), (⟨#[107, 101, 121]⟩ : ByteArray), (⟨#[117, 110, 105, 113, 117, 101]⟩ : ByteArray), (⟨#[105, 110, 100, 101, 120]⟩ : ByteArray), (⟨#[112, 97, 114, 116, 115]⟩ : ByteArray), (⟨#[98, 121]⟩ : ByteArray), (⟨#[111, 110]⟩ : ByteArray), (⟨#[102, 114, 111, 109]⟩ : ByteArray), (⟨#[97, 116]⟩ : ByteArray), (⟨#[102, 117, 101, 108]⟩ : ByteArray), (⟨#[116, 117, 112, 108, 101, 115]⟩ : ByteArray), (⟨#[98, 97, 116, 99, 104, 101, 115]⟩ : ByteArray), (⟨#[115, 108, 105, 100, 101]⟩ : ByteArray)]) ((AE e_c A0 (Aw f_d AL) rfl (AE e_c A0 (Aw f_d AL) rfl (AE e_c A0 (Aw f_d AL) rfl (AE e_c A0 (Aw f_d AL) rfl (AE e_c A0 (Aw f_d AL) rfl (AE e_c A0 (Aw f_d AL) rfl (AE e_c A0 (Aw f_d AL) rfl (AE e_c A0 (Aw f_d AL) rfl (AE e_c A0 (Aw f_d AL) rfl (AE e_c A0 (Aw f_d AL) rfl (AE e_c A0 (Aw f_d AL) rfl (AE e_c A0 (Aw f_d AL) rfl (AE e_c A0 (Aw f_d AL) rfl (AE e_c A0 (Aw f_d AL) rfl (AE e_c A0 (Aw f_d AL) rfl (AE e_c A0 (Aw f_d AL) rfl (AE e_c A0 (Aw f_d AL) rfl (AE e_c A0 (Aw f_d AL) rfl (AE e_c A0 (Aw f_d AL) rfl (AE e_c A0 (Aw f_d AL) rfl (AE e_c A0 (Aw f_d AL) rfl (AE e_c A0 (Aw f_d AL) rfl (AE e_c A0 (Aw f_d AL) rfl (AE e_c A0 (Aw f_d AL) rfl (AE e_c A0 (Aw f_d AL) rfl (AE e_c A0 (Aw f_d AL) rfl (AE e_c A0 (Aw f_d AL) rfl (AE e_c A0 (Aw f_d AL) rfl (AE e_c A0 (Aw f_d AL) rfl (AE e_c A0 (Aw f_d AL) rfl (AE e_c A0 (Aw f_d AL) rfl (AE e_c A0 (Aw f_d AL) rfl (AE e_c A0 (Aw f_d AL) rfl (AE e_c A0 (Aw f_d AL) rfl (AE e_c A0 (Aw f_d AL) rfl (AE e_c A0 (Aw f_d AL) rfl (AE e_c A0 (Aw f_d AL) rfl (AE e_c A0 (Aw f_d AL) rfl (AE e_c A0 (Aw f_d AL) rfl (AE e_c A0 (Aw f_d AL) rfl (AE e_c A0 (Aw f_d AL) rfl (AE e_c A0 (Aw f_d AL) rfl (AE e_c A0 (Aw f_d AL) rfl Eg)))))))))))))))))))))))))))))))))))))))))))) ?_
 refine Ab (e_t eh) (Aa (Ae (Al (Al (Af ?_)))))
 unfold Rj
 refine Ab e_c (Aa (Ae ?_))
 refine AT ?_
 refine BX (fun m f st' => ∃ (v1 : Int), BF p0 m v1 = some r ∧ f 0 = (.d (.str p0)) ∧ f 3 = (.ex (List.map rS ([(⟨#[97, 110, 100]⟩ : ByteArray), (⟨#[111, 114]⟩ : ByteArray), (⟨#[110, 111, 116]⟩ : ByteArray), (⟨#[116, 114, 117, 101]⟩ : ByteArray), (⟨#[102, 97, 108, 115, 101]⟩ : ByteArray), (⟨#[108, 101, 116]⟩ : ByteArray), (⟨#[115, 101, 116]⟩ : ByteArray), (⟨#[105, 110, 115, 101, 114, 116]⟩ : ByteArray), (⟨#[117, 112, 100, 97, 116, 101]⟩ : ByteArray), (⟨#[100, 101, 108, 101, 116, 101]⟩ : ByteArray), (⟨#[102, 111, 114]⟩ : ByteArray), (⟨#[105, 110]⟩ : ByteArray), (⟨#[119, 104, 101, 114, 101]⟩ : ByteArray), (⟨#[108, 105, 109, 105, 116]⟩ : ByteArray), (⟨#[105, 102]⟩ : ByteArray), (⟨#[101, 108, 115, 101]⟩ : ByteArray), (⟨#[101, 109, 105, 116]⟩ : ByteArray), (⟨#[97, 98, 111, 114, 116]⟩ : ByteArray), (⟨#[114, 101, 112, 108, 121]⟩ : ByteArray), (⟨#[99, 111, 117, 110, 116]⟩ : ByteArray), (⟨#[115, 117, 109]⟩ : ByteArray), (⟨#[109, 105, 110]⟩ : ByteArray), (⟨#[109, 97, 120]⟩ : ByteArray), (⟨#[105, 110, 116]⟩ : ByteArray), (⟨#[116, 101, 120, 116]⟩ : ByteArray), (⟨#[98, 111, 111, 108]⟩ : ByteArray), (⟨#[116, 97, 98, 108, 101]⟩ : ByteArray), (⟨#[115, 116, 114, 101, 97, 109]⟩ : ByteArray), (⟨#[119, 105, 110, 100, 111, 119]⟩ : ByteArray), (⟨#[115, 105, 110, 107]⟩ : ByteArray), (⟨#[112, 114, 111, 99]⟩ : ByteArray), (⟨#[107, 101, 121]⟩ : ByteArray), (⟨#[117, 110, 105, 113, 117, 101]⟩ : ByteArray), (⟨#[105, 110, 100, 101, 120]⟩ : ByteArray), (⟨#[112, 97, 114, 116, 115]⟩ : ByteArray), (⟨#[98, 121]⟩ : ByteArray), (⟨#[111, 110]⟩ : ByteArray), (⟨#[102, 114, 111, 109]⟩ : ByteArray), (⟨#[97, 116]⟩ : ByteArray), (⟨#[102, 117, 101, 108]⟩ : ByteArray), (⟨#[116, 117, 112, 108, 101, 115]⟩ : ByteArray), (⟨#[98, 97, 116, 99, 104, 101, 115]⟩ : ByteArray), (⟨#[115, 108, 105, 100, 101]⟩ : ByteArray)]))) ∧ f 4 = (.d (.int .i64 v1)) ∧ st' = st ++ []) n (Ghost.refl _) ⟨(0 : Int), hr, (Ad rfl eh), (em rfl eh), eh, rfl⟩ ?_
 rintro m f st' ⟨v1, hr, h0, h3, h4, rfl⟩
 cases m with
 | zero => cases hr
 | succ m_0 =>
   rw [BF] at hr
   generalize hrec_0 : BF p0 m_0 = q0 at hr
   rw [ES] at hr
   unfold QE
   refine Al (Al (Af ?_))
   unfold Qo
   refine Ab (e_t h4) (Ab (e_t (em rfl h3)) ?_)
   refine Bh (row := rS) (AP (e_t eh) K1) ?_
   refine As (e_t (Ac rfl eh)) (e_t eh) (CM ?_)
   refine Aa (Ae ?_)
   refine AC (e_t eh) hr (fun hr => ?_) (fun hr => ?_)
   rotate_left
   · refine CG ?_
     refine AW ?_
     refine AW ?_
     refine DF ?_
     refine Ae (Al (Af ?_))
     unfold Qu
     refine Ab e_c (Aa (Ae (AI ?_)))
     cases hr
     exact A7 (AG eh AH) (AN AF v_d) (Ay hwf) h
   refine AO (Ae (Al ?_))
   refine AT ?_
   refine Al (Af ?_)
   unfold RG
   refine Ab (e_t (Ad rfl h3)) (Ab (e_t (Ad rfl (em rfl h4))) ?_)
   refine Br (row := rS) (AP (e_t (em rfl eh)) K1) (e_t eh) hr (fun _ => rfl) (fun _ => rfl) (fun v2 hr => ?_)
   refine BI (e_t eh) (by exact rfl) ?_
   refine Ab (e_t (Ad rfl (Ad rfl h0))) ?_
   refine As (e_t (em rfl eh)) (e_t eh) (Dg ?_)
   refine Aa (Ae ?_)
   refine AC (e_t eh) hr (fun hr => ?_) (fun hr => ?_)
   rotate_left
   · refine AO ?_
     refine BB ?_
     refine Ae (Af ?_)
     unfold QD
     refine Ab (e_t (Ak rfl (Ac rfl h4))) ?_
     refine As (e_t eh) e_c (BU ?_)
     refine Ab (e_t eh) (Aa (Ae ?_))
     exact ⟨m_0, _, Nat.lt_succ_self m_0, Ghost.refl _, (IntKind.wrap .i64 (v1 + (1 : Int))), (by rw [hrec_0]; exact hr), (Ak rfl (Ad rfl (em rfl h0))), (Ak rfl (Ad rfl (em rfl h3))), eh, rfl⟩
   refine Al (Af ?_)
   unfold Ro
   refine Ab e_c (Aa (Ae (AI ?_)))
   refine BH ?_
   refine AA (AA ?_)
   refine BH ?_
   refine AA ?_
   cases hr
   exact A7 (AG eh AH) (AN AF v_d) (Ay hwf) h
end Go.Ax
