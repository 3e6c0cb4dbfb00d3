import Derived.Test.YtojkpenjeglipaaIYT
import Derived.Test.YtojkpenjeglipaaICVX
import Derived.Test.YtojkpenjeglipaaICPrim
import Derived.Test.YtojkpenjeglipaaIYD1
set_option linter.unusedVariables false
set_option linter.unusedSimpArgs false
namespace Go.Ax
attribute [local irreducible] BL ER FD Bf CF Fz B6 KZ HX upd ev u0 Dt frz A6 EB mmD bnd BV Ft Do CO GU Ht G2 cutV I1 Cv
variable {st : List Content}
def G6  : (List ByteArray) :=
 [(⟨#[97, 110, 100]⟩ : ByteArray), (⟨#[111, 114]⟩ : ByteArray), (⟨#[110, 111, 116]⟩ : ByteArray), (⟨#[116, 114, 117, 101]⟩ : ByteArray), (⟨#[102, 97, 108, 115, 101]⟩ : ByteArray), (⟨#[108, 101, 116]⟩ : ByteArray), (⟨#[115, 101, 116]⟩ : ByteArray), (⟨#[105, 110, 115, 101, 114, 116]⟩ : ByteArray), (⟨#[117, 112, 100, 97, 116, 101]⟩ : ByteArray), (⟨#[100, 101, 108, 101, 116, 101]⟩ : ByteArray), (⟨#[102, 111, 114]⟩ : ByteArray), (⟨#[105, 110]⟩ : ByteArray), (⟨#[119, 104, 101, 114, 101]⟩ : ByteArray), (⟨#[108, 105, 109, 105, 116]⟩ : ByteArray), (⟨#[105, 102]⟩ : ByteArray), (⟨#[101, 108, 115, 101]⟩ : ByteArray), (⟨#[101, 109, 105, 116]⟩ : ByteArray), (⟨#[97, 98, 111, 114, 116]⟩ : ByteArray), (⟨#[114, 101, 112, 108, 121]⟩ : ByteArray), (⟨#[99, 111, 117, 110, 116]⟩ : ByteArray), (⟨#[115, 117, 109]⟩ : ByteArray), (⟨#[109, 105, 110]⟩ : ByteArray), (⟨#[109, 97, 120]⟩ : ByteArray), (⟨#[105, 110, 116]⟩ : ByteArray), (⟨#[116, 101, 120, 116]⟩ : ByteArray), (⟨#[98, 111, 111, 108]⟩ : ByteArray), (⟨#[116, 97, 98, 108, 101]⟩ : ByteArray), (⟨#[115, 116, 114, 101, 97, 109]⟩ : ByteArray), (⟨#[119, 105, 110, 100, 111, 119]⟩ : ByteArray), (⟨#[115, 105, 110, 107]⟩ : ByteArray), (⟨#[112, 114, 111, 99]⟩ : ByteArray), (⟨#[107, 101, 121]⟩ : ByteArray), (⟨#[117, 110, 105, 113, 117, 101]⟩ : ByteArray), (⟨#[105, 110, 100, 101, 120]⟩ : ByteArray), (⟨#[112, 97, 114, 116, 115]⟩ : ByteArray), (⟨#[98, 121]⟩ : ByteArray), (⟨#[111, 110]⟩ : ByteArray), (⟨#[102, 114, 111, 109]⟩ : ByteArray), (⟨#[97, 116]⟩ : ByteArray), (⟨#[102, 117, 101, 108]⟩ : ByteArray), (⟨#[116, 117, 112, 108, 101, 115]⟩ : ByteArray), (⟨#[98, 97, 116, 99, 104, 101, 115]⟩ : ByteArray), (⟨#[115, 108, 105, 100, 101]⟩ : ByteArray)]
set_option maxRecDepth 100000 in
set_option maxHeartbeats 4000000 in
theorem AF7  {r : (List ByteArray)} (hr : G6 = r) {K : PV → List Content → Prop} (h : K (.d (.sl (List.map rS r))) st) : Aw PR YQ [] st K := by
 refine Aw.of AI6 (Nat.le_of_ble_eq_true rfl) fun hwf => ?_
 rw [Ax5]
 refine AQ ?_
 unfold Al7
 rw [G6] at hr
 refine Al (Af ?_)
 unfold W8
 refine Ab e_c (Aa (Ae (Al (Af ?_))))
 unfold Wf
 refine CX (rows := List.map rS [(⟨#[97, 110, 100]⟩ : ByteArray), (⟨#[111, 114]⟩ : ByteArray), (⟨#[110, 111, 116]⟩ : ByteArray), (⟨#[116, 114, 117, 101]⟩ : ByteArray), (⟨#[102, 97, 108, 115, 101]⟩ : ByteArray), (⟨#[108, 101, 116]⟩ : ByteArray), (⟨#[115, 101, 116]⟩ : ByteArray), (⟨#[105, 110, 115, 101, 114, 116]⟩ : ByteArray), (⟨#[117, 112, 100, 97, 116, 101]⟩ : ByteArray), (⟨#[100, 101, 108, 101, 116, 101]⟩ : ByteArray), (⟨#[102, 111, 114]⟩ : ByteArray), (⟨#[105, 110]⟩ : ByteArray), (⟨#[119, 104, 101, 114, 101]⟩ : ByteArray), (⟨#[108, 105, 109, 105, 116]⟩ : ByteArray), (⟨#[105, 102]⟩ : ByteArray), (⟨#[101, 108, 115, 101]⟩ : ByteArray), (⟨#[101, 109, 105, 116]⟩ : ByteArray), (⟨#[97, 98, 111, 114, 116]⟩ : ByteArray), (⟨#[114, 101, 112, 108, 121]⟩ : ByteArray), (⟨#[99, 111, 117, 110, 116]⟩ : ByteArray), (⟨#[115, 117, 109]⟩ : ByteArray), (⟨#[109, 105, 110]⟩ : ByteArray), (⟨#[109, 97, 120]⟩ : ByteArray), (⟨#[105, 110, 116]⟩ : ByteArray), (⟨#[116, 101, 120, 116]⟩ : ByteArray), (⟨#[98, 111, 111, 108]⟩ : ByteArray), (⟨#[116, 97, 98, 108, 101]⟩ : ByteArray), (⟨#[115, 116, 114, 101, 97, 109]⟩ : ByteArray), (⟨#[119, 105, 110, 100, 111, 119]⟩ : ByteArray), (⟨#[115, 105, 110, 107]⟩ : ByteArray), (⟨#[112, 114, 111, 99]⟩ : ByteArray), (⟨#[107, 101, 121]⟩ : ByteArray), (⟨#[117, 110, 105, 113, 117, 101]⟩ : ByteArray), (⟨#[105, 110, 100, 101, 120]⟩ : ByteArray), (⟨#[112, 97, 114, 116, 115]⟩ : ByteArray), (⟨#[98, 121]⟩ : ByteArray), (⟨#[111, 110]⟩ : ByteArray), (⟨#[102, 114, 111, 109]⟩ : ByteArray), (⟨#[97, 116]⟩ : ByteArray), (⟨#[102, 117, 101, 108]⟩ : ByteArray), (⟨#[116, 117, 112, 108, 101, 115]⟩ : ByteArray), (⟨#[98, 97, 116, 99, 104, 101, 115]⟩ : ByteArray), (⟨#[115, 108, 105, 100, 101]⟩ : ByteArray)]) ((AE e_c AZ (As f_d AK) rfl (AE e_c AZ (As f_d AK) rfl (AE e_c AZ (As f_d AK) rfl (AE e_c AZ (As f_d AK) rfl (AE e_c AZ (As f_d AK) rfl (AE e_c AZ (As f_d AK) rfl (AE e_c AZ (As f_d AK) rfl (AE e_c AZ (As f_d AK) rfl (AE e_c AZ (As f_d AK) rfl (AE e_c AZ (As f_d AK) rfl (AE e_c AZ (As f_d AK) rfl (AE e_c AZ (As f_d AK) rfl (AE e_c AZ (As f_d AK) rfl (AE e_c AZ (As f_d AK) rfl (AE e_c AZ (As f_d AK) rfl (AE e_c AZ (As f_d AK) rfl (AE e_c AZ (As f_d AK) rfl (AE e_c AZ (As f_d AK) rfl (AE e_c AZ (As f_d AK) rfl (AE e_c AZ (As f_d AK) rfl (AE e_c AZ (As f_d AK) rfl (AE e_c AZ (As f_d AK) rfl (AE e_c AZ (As f_d AK) rfl (AE e_c AZ (As f_d AK) rfl (AE e_c AZ (As f_d AK) rfl (AE e_c AZ (As f_d AK) rfl (AE e_c AZ (As f_d AK) rfl (AE e_c AZ (As f_d AK) rfl (AE e_c AZ (As f_d AK) rfl (AE e_c AZ (As f_d AK) rfl (AE e_c AZ (As f_d AK) rfl (AE e_c AZ (As f_d AK) rfl (AE e_c AZ (As f_d AK) rfl (AE e_c AZ (As f_d AK) rfl (AE e_c AZ (As f_d AK) rfl (AE e_c AZ (As f_d AK) rfl (AE e_c AZ (As f_d AK) rfl (AE e_c AZ (As f_d AK) rfl (AE e_c AZ (As f_d AK) rfl (AE e_c AZ (As f_d AK) rfl (AE e_c AZ (As f_d AK) rfl (AE e_c AZ (As f_d AK) rfl (AE e_c AZ (As f_d AK) rfl DV)))))))))))))))))))))))))))))))))))))))))))) ?_
 refine Ab (e_t eh) (Aa (Ae (AI ?_)))
 subst hr
 exact A7 (AF eh AH) (AM RO v_d) (Av hwf) h
def CU (p0 : (List ByteArray)) (p1 : ByteArray) (q0 : Int → Option Int) (v2 : Int) : Option Int :=
 (bif (decide (v2 < (p0.length : Int))) then ((Dh p0 v2).bind fun v3 => (bif (decide (p1 = v3)) then some v2 else q0 (IntKind.wrap .i64 (v2 + (1 : Int))))) else some (-1))
def A9 (p0 : (List ByteArray)) (p1 : ByteArray) : Nat → Int → Option Int
 | 0, _ => none
 | m + 1, v2 => CU p0 p1 (A9 p0 p1 m) v2
def Dm (n : Nat) (p0 : (List ByteArray)) (p1 : ByteArray) : Option Int :=
 (A9 p0 p1 n (0 : Int))
set_option maxRecDepth 100000 in
set_option maxHeartbeats 4000000 in
theorem Ku (n : Nat) (p0 : (List ByteArray)) (p1 : ByteArray) {r : Int} (hr : Dm n p0 p1 = some r) {K : PV → List Content → Prop} (h : K (.d (.int .i64 r)) st) : Aw PR EK [(.d (.sl (List.map rS p0))), (.d (.str p1))] st K := by
 refine Aw.of KB (Nat.le_of_ble_eq_true rfl) fun hwf => ?_
 rw [DX]
 refine AQ ?_
 unfold G3
 rw [Dm] at hr
 refine Al (Af ?_)
 unfold F5
 refine Ab e_c (Aa (Ae (Al (Al (Af ?_)))))
 unfold Ga
 refine Ab (e_t (em rfl eh)) ?_
 refine Bh (row := rS) (AL (e_t eh) Bq) ?_
 refine Ab e_c (Aa (Ae ?_))
 refine AX ?_
 refine Ca (fun m f st' => ∃ (v2 : Int), A9 p0 p1 m v2 = some r ∧ f 0 = (.d (.sl (List.map rS p0))) ∧ f 1 = (.d (.str p1)) ∧ f 7 = (.d (.int .i64 (p0.length : Int))) ∧ f 8 = (.d (.int .i64 v2)) ∧ st' = st ++ []) n (Ghost.refl _) ⟨(0 : Int), hr, (Ad rfl eh), (Ad rfl (em rfl eh)), (em rfl eh), eh, rfl⟩ ?_
 rintro m f st' ⟨v2, hr, h0, h1, h7, h8, rfl⟩
 cases m with
 | zero => cases hr
 | succ m_0 =>
   rw [A9] at hr
   generalize hrec_0 : A9 p0 p1 m_0 = q0 at hr
   rw [CU] at hr
   unfold F7
   refine Al (Af ?_)
   unfold F6
   refine Ar (e_t h8) (e_t h7) (CL ?_)
   refine Aa (Ae (Al ?_))
   refine AC (e_t eh) hr (fun hr => ?_) (fun hr => ?_)
   rotate_left
   · refine CP ?_
     refine A0 ?_
     refine A0 ?_
     refine Ea ?_
     refine Ae (Al (Af ?_))
     unfold F8
     refine Ab e_c (Aa (Ae (AI ?_)))
     cases hr
     exact A7 (AF eh AH) (AM AG v_d) (Av hwf) h
   refine AN (Ae (Al ?_))
   refine AX ?_
   refine Al (Af ?_)
   unfold Gb
   refine Ab (e_t (em rfl h8)) (Ab (e_t eh) (Aa (Ae (Al (Af ?_)))))
   unfold Ge
   refine Ab (e_t (Ac rfl (em rfl h1))) (Ab (e_t (Ad rfl h0)) (Ab (e_t (Ac rfl eh)) ?_))
   refine Bt (row := rS) (AL (e_t (em rfl eh)) Bq) (e_t eh) hr (fun _ => rfl) (fun _ => rfl) (fun v3 hr => ?_)
   refine BG (e_t eh) (by exact rfl) ?_
   refine Ar (e_t (Ad rfl eh)) (e_t eh) (Db ?_)
   refine Aa (Ae ?_)
   refine AC (e_t eh) hr (fun hr => ?_) (fun hr => ?_)
   rotate_left
   · refine AN ?_
     refine BA ?_
     refine Ae (Af ?_)
     unfold Gd
     refine Ar (e_t (Ak rfl (em rfl h8))) e_c (BX ?_)
     refine Ab (e_t eh) (Aa (Ae ?_))
     exact ⟨m_0, _, Nat.lt_succ_self m_0, Ghost.refl _, (IntKind.wrap .i64 (v2 + (1 : Int))), (by rw [hrec_0]; exact hr), (Ak rfl (Ac rfl (em rfl h0))), (Ak rfl (Ac rfl (em rfl h1))), (Ak rfl (Ac rfl (em rfl h7))), eh, rfl⟩
   refine Al (Af ?_)
   unfold F9
   refine Ab (e_t (Ad rfl (Ac rfl eh))) (Ab (e_t eh) (Aa (Ae (AI ?_))))
   refine BE ?_
   refine AA (AA ?_)
   refine BE ?_
   refine AA ?_
   cases hr
   exact A7 (AF eh AH) (AM AG v_d) (Av hwf) h
def BO (n : Nat) (p0 : (List ByteArray)) (p1 : ByteArray) : Option Bool :=
 ((Dm n p0 p1).bind fun v2 => some (decide ((0 : Int) ≤ v2)))
set_option maxRecDepth 100000 in
set_option maxHeartbeats 4000000 in
theorem F4 (n : Nat) (p0 : (List ByteArray)) (p1 : ByteArray) {r : Bool} (hr : BO n p0 p1 = some r) {K : PV → List Content → Prop} (h : K (.d (.bool r)) st) : Aw PR CW [(.d (.sl (List.map rS p0))), (.d (.str p1))] st K := by
 refine Aw.of JA (Nat.le_of_ble_eq_true rfl) fun hwf => ?_
 rw [DX]
 refine AQ ?_
 unfold Gc
 rw [BO] at hr
 refine Al (Af ?_)
 unfold Fu
 refine Ab e_c (Aa (Ae (Al (Af ?_))))
 unfold Fm
 refine Ab (e_t (em rfl eh)) (Ab (e_t (Ac rfl (em rfl eh))) ?_)
 obtain ⟨v2, hc_v2, hr⟩ := bind_some hr
 refine AP (Ay (e_t (em rfl eh)) AG (Ay (e_t eh) AG AR)) ?_
 refine Ku n p0 p1 hc_v2 ?_
 refine Ar (e_t eh) e_c (ET ?_)
 refine Ab (e_t eh) (Aa (Ae (AI ?_)))
 cases hr
 exact A7 (AF eh AH) (AM AG v_d) (Av hwf) h
def Gy (n : Nat) (p0 : ByteArray) : Option Bool :=
 ((BO n (G6) p0).bind fun v1 => some v1)
set_option maxRecDepth 100000 in
set_option maxHeartbeats 4000000 in
theorem Ak4 (n : Nat) (p0 : ByteArray) {r : Bool} (hr : Gy n p0 = some r) {K : PV → List Content → Prop} (h : K (.d (.bool r)) st) : Aw PR QL [(.d (.str p0))] st K := by
 refine Aw.of Aq5 (Nat.le_of_ble_eq_true rfl) fun hwf => ?_
 rw [Cm]
 refine AQ ?_
 unfold VS
 rw [Gy] at hr
 refine Al (Af ?_)
 unfold QF
 refine Ab e_c (Aa (Ae (Al (Af ?_))))
 unfold Rf
 refine AP AR ?_
 refine AF7 rfl ?_
 refine Ab (e_t (Ac rfl eh)) ?_
 obtain ⟨v1, hc_v1, hr⟩ := bind_some hr
 refine AP (Ay (e_t (em rfl eh)) AG (Ay (e_t eh) AG AR)) ?_
 refine F4 n (G6) p0 hc_v1 ?_
 refine Ab (e_t eh) (Aa (Ae (AI ?_)))
 cases hr
 exact A7 (AF eh AH) (AM AG v_d) (Av hwf) h
def Gi (n : Nat) (p0 : (List ByteArray)) : Option Bool :=
 ((Gn n p0).bind fun v1 => (bif v1 then ((BR n p0 (fun (a0 : ByteArray) => Gy n a0)).bind fun v2 => some (!v2)) else some false))
set_option maxRecDepth 100000 in
set_option maxHeartbeats 4000000 in
theorem KX (n : Nat) (p0 : (List ByteArray)) {r : Bool} (hr : Gi n p0 = some r) {K : PV → List Content → Prop} (h : K (.d (.bool r)) st) : Aw PR IW [(.d (.sl (List.map rS p0)))] st K := by
 refine Aw.of AN1 (Nat.le_of_ble_eq_true rfl) fun hwf => ?_
 rw [Cm]
 refine AQ ?_
 unfold Ax4
 rw [Gi] at hr
 refine Al (Af ?_)
 unfold Yc
 refine Ab e_c (Aa (Ae (Al (Af ?_))))
 unfold YA
 refine Bo ?_
 unfold S7
 refine Ab (e_t (em rfl eh)) ?_
 obtain ⟨v1, hc_v1, hr⟩ := bind_some hr
 refine AP (Ay (e_t eh) AG AR) ?_
 refine Zt n p0 hc_v1 ?_
 refine Ab (e_t eh) ?_
 refine Au eh hr (fun hr => ?_) (fun hr => ?_)
 rotate_left
 · refine Ah eh (Ah (em rfl eh) (Ah (Ac rfl eh) (Ao (e_t (Ac rfl (em rfl eh))) e_c (Aa ?_))))
   unfold OV
   refine Ab (e_t eh) (Aa (Ae (AI ?_)))
   cases hr
   exact A7 (AF eh AH) (AM AG v_d) (Av hwf) h
 refine Aj eh (Ab (e_t (Ad rfl (em rfl eh))) (Aj (em rfl eh) ?_))
 obtain ⟨v2, hc_v2, hr⟩ := bind_some hr
 refine AP (Ay (e_t eh) AG (Ay e_c LD AR)) ?_
 refine Il n p0 (fun (a0 : ByteArray) => Gy n a0) (fun a0 {_} hr {_ _} hk => Ak4 n a0 hr hk) (fun _ => rfl) hc_v2 ?_
 refine Aj (Ac rfl eh) (CS (e_t eh) (An (e_t (Ac rfl (em rfl eh))) (e_t eh) (Aa ?_)))
 unfold OV
 refine Ab (e_t eh) (Aa (Ae (AI ?_)))
 cases hr
 exact A7 (AF eh AH) (AM AG v_d) (Av hwf) h
def ID (v14 : Bool) : Option Bool :=
 some v14
def IC (p0 : TP) (n : Nat) (v2 : (List ByteArray)) (v12 : Bool) : Option Bool :=
 (bif v12 then some false else (bif (!decide (p0.From = (⟨#[]⟩ : ByteArray))) then ((Gi n ([p0.From])).bind fun v13 => (bif v13 then (bif (decide ((v2.length : Int) = (0 : Int))) then (ID (decide (p0.At = (⟨#[]⟩ : ByteArray)))) else (ID false)) else (ID false))) else (bif (decide (p0.At = (⟨#[]⟩ : ByteArray))) then some true else ((BO n v2 p0.At).bind fun v15 => some v15))))
def IF (p0 : TP) (n : Nat) (v2 : (List ByteArray)) (v11 : Bool) : Option Bool :=
 (bif v11 then (IC p0 n v2 true) else (IC p0 n v2 (!(C7 p0.Fuel (1 : Int) (2000 : Int)))))
def IE (p0 : TP) (n : Nat) (v2 : (List ByteArray)) (v9 : Bool) : Option Bool :=
 (bif v9 then (IF p0 n v2 true) else ((M4 v2).bind fun v10 => (IF p0 n v2 (!v10))))
def GH (p0 : TP) (n : Nat) (v2 : (List ByteArray)) (v7 : Bool) : Option Bool :=
 (bif v7 then (IE p0 n v2 true) else ((Gi n v2).bind fun v8 => (IE p0 n v2 (!v8))))
def KY (p0 : TP) (n : Nat) (q0 : (List ByteArray) → Int → Option Bool) (v2 : (List ByteArray)) (v3 : Int) : Option Bool :=
 (bif (decide (v3 < (p0.Params.length : Int))) then ((Dh p0.Params v3).bind fun v4 => (bif (!(C7 v4.Kind (1 : Int) (3 : Int))) then some false else ((Gq 16 v2 ([v4.Name])).bind fun v5 => q0 v5 (IntKind.wrap .i64 (v3 + (1 : Int)))))) else ((Gi n ([p0.Name])).bind fun v6 => (bif (!v6) then (GH p0 n v2 true) else (GH p0 n v2 (decide ((8 : Int) < (v2.length : Int)))))))
def E6 (p0 : TP) (n : Nat) : Nat → (List ByteArray) → Int → Option Bool
 | 0, _, _ => none
 | m + 1, v2, v3 => KY p0 n (E6 p0 n m) v2 v3
def Oj (n : Nat) (p0 : TP) : Option Bool :=
 (E6 p0 n n ([]) (0 : Int))
set_option maxRecDepth 100000 in
set_option maxHeartbeats 4000000 in
theorem AG9 (n : Nat) (p0 : TP) {r : Bool} (hr : Oj n p0 = some r) {K : PV → List Content → Prop} (h : K (.d (.bool r)) st) : Aw PR Y3 [(.agg [(.d (.str p0.Name)), (.d (.str p0.From)), (.d (.str p0.At)), (.d (.int .i64 p0.Fuel)), (.d (.sl (List.map T_api_Column.row p0.Params))), (.d (.sl (List.map TS.row p0.Body)))])] st K := by
 refine Aw.of AG6 (Nat.le_of_ble_eq_true rfl) fun hwf => ?_
 rw [Cm]
 refine AQ ?_
 unfold Aq6
 rw [Oj] at hr
 refine Al (Af ?_)
 unfold WP
 refine Gw (k := 0) rfl rfl (e_t eh) Bg (by exact rfl) ?_
 refine Ab e_c (Aa (Ae (Al (Af ?_))))
 unfold W7
 refine Ab e_c (Aa (Ae (Al (Al (Af ?_)))))
 unfold WX
 refine AB (e_t (Ac rfl eh)) (by exact rfl) ?_
 refine Ap (e_t eh) ((Am rfl 0).trans rfl) (by exact rfl) ?_
 refine Bh (row := T_api_Column.row) (AL (e_t eh) Bq) ?_
 refine Ab e_c (Aa (Ae ?_))
 refine AX ?_
 refine Ca (fun m f st' => ∃ (v2 : (List ByteArray)), ∃ (v3 : Int), ∃ (w1 : Nat), E6 p0 n m v2 v3 = some r ∧ f 1 = (.ptr (st.length + 0) 0) ∧ f 3 = (.own (st.length + 1) w1) ∧ f 7 = (.d (.sl (List.map T_api_Column.row p0.Params))) ∧ f 8 = (.d (.int .i64 (p0.Params.length : Int))) ∧ f 9 = (.d (.int .i64 v3)) ∧ st' = st ++ [(.box [(.d (.str p0.Name)), (.d (.str p0.From)), (.d (.str p0.At)), (.d (.int .i64 p0.Fuel)), (.d (.sl (List.map T_api_Column.row p0.Params))), (.d (.sl (List.map TS.row p0.Body)))]), (.row AD w1 (List.map rS v2))]) n (AI9 (k := 1) 3 (List.map rS ([])) AD 1 rfl rfl (Ad rfl eh) rfl (JH (fun _ => rfl))) ⟨[], (0 : Int), 0, hr, (Ad rfl (Ac rfl (em rfl eh))), eh, (Ac rfl (em rfl eh)), (Ac rfl eh), (em rfl eh), rfl⟩ ?_
 rintro m f st' ⟨v2, v3, w1, hr, h1, h3, h7, h8, h9, rfl⟩
 cases m with
 | zero => cases hr
 | succ m_0 =>
   rw [E6] at hr
   generalize hrec_0 : E6 p0 n m_0 = q0 at hr
   rw [KY] at hr
   unfold Xd
   refine Al (Af ?_)
   unfold Wv
   refine Ar (e_t h9) (e_t h8) (CL ?_)
   refine Aa (Ae (Al ?_))
   refine AC (e_t eh) hr (fun hr => ?_) (fun hr => ?_)
   · refine AN (Ae (Al ?_))
     refine AX ?_
     refine Al (Af ?_)
     unfold Wi
     refine Bt (row := T_api_Column.row) (AL (e_t (em rfl h7)) Bq) (e_t (em rfl h9)) hr T_api_Column.row_eq (fun _ => rfl) (fun v4 hr => ?_)
     refine DH (e_t eh) (Nat.le_of_ble_eq_true rfl) (by exact rfl) ?_
     refine Ci (k := 2) rfl rfl ?_
     refine Bl (e_t eh) ((Am rfl 2).trans rfl) (e_t (em rfl eh)) Bg rfl (Nat.le_of_ble_eq_true rfl) (by exact rfl) (cells' := [(.d (.str v4.Name)), (.d (.int .i64 v4.Kind))]) (by exact rfl) (Bk rfl _ _) ?_
     refine Aa (Ae (Al (Al (Af ?_))))
     unfold V2
     refine AB (e_t eh) (by exact rfl) ?_
     refine Ap (e_t eh) ((Am rfl 2).trans rfl) (by exact rfl) ?_
     refine AP (Ay (e_t eh) AG (Ay e_c AG (Ay e_c AG AR))) ?_
     refine Ns v4.Kind (1 : Int) (3 : Int) rfl ?_
     refine CS (e_t eh) (Aa (Ae ?_))
     refine AC (e_t eh) hr (fun hr => ?_) (fun hr => ?_)
     · refine Al (Af ?_)
       unfold VT
       refine Ab e_c (Aa (Ae (AI (AA ?_))))
       refine BE ?_
       refine AA (AA ?_)
       refine BE ?_
       refine AA ?_
       cases hr
       exact A7 (AF eh AH) (AM AG v_d) (Av hwf) h
     refine AN (Ae (Af ?_))
     unfold WG
     refine Ab (e_t (Ad rfl (Ad rfl h3))) ?_
     refine AB (e_t (Ad rfl (em rfl eh))) (by exact rfl) ?_
     refine Ap (e_t eh) ((Am rfl 2).trans rfl) (by exact rfl) ?_
     refine CX (rows := List.map rS [v4.Name]) ((AE (e_t eh) AZ (As f_d AK) rfl DV)) ?_
     refine Hg (row := rS) (AL (e_t eh) KJ) (fun _ => rfl) (fun _ => rfl) (e_t (Ac rfl (em rfl eh))) ((Am rfl 1).trans rfl) (fun _ => (Bk rfl _ _)) hr (fun v5 hr => ?_)
     refine Ab (e_t eh) (Aa ?_)
     refine BA ?_
     refine Ae (Af ?_)
     unfold W1
     refine Ar (e_t (Ak rfl (Ad rfl (Ac rfl h9)))) e_c (BX ?_)
     refine Ab (e_t eh) (Aa (Ae ?_))
     exact ⟨m_0, _, Nat.lt_succ_self m_0, Ghost.cut _ (st.length + 2) (Nat.le_add_right _ _), v5, (IntKind.wrap .i64 (v3 + (1 : Int))), (w1 + 1), (by rw [hrec_0]; exact hr), ((congrArg (cutV _) (Ak rfl (Ad rfl (Ad rfl h1)))).trans (by simp [cutV, AJ])), ((congrArg (cutV _) (Ac rfl eh)).trans (by simp [cutV, AJ])), ((congrArg (cutV _) (Ak rfl (Ad rfl (Ad rfl h7)))).trans (v_d)), ((congrArg (cutV _) (Ak rfl (Ad rfl (Ad rfl h8)))).trans (v_d)), ((congrArg (cutV _) eh).trans (v_d)), (EO (l0 := [(.box [(.d (.str p0.Name)), (.d (.str p0.From)), (.d (.str p0.At)), (.d (.int .i64 p0.Fuel)), (.d (.sl (List.map T_api_Column.row p0.Params))), (.d (.sl (List.map TS.row p0.Body)))]), (.row AD (w1 + 1) (List.map rS v5))]) (l1 := _) hwf rfl rfl rfl)⟩
   refine CP ?_
   refine A0 ?_
   refine A0 ?_
   refine Ea ?_
   refine Ae (Al ?_)
   refine BD (fun f st' => ∃ (v12 : Bool), IC p0 n v2 v12 = some r ∧ f 1 = (.ptr (st.length + 0) 0) ∧ f 3 = (.own (st.length + 1) w1) ∧ f 48 = (.d (.bool v12)) ∧ st' = st ++ [(.box [(.d (.str p0.Name)), (.d (.str p0.From)), (.d (.str p0.At)), (.d (.int .i64 p0.Fuel)), (.d (.sl (List.map T_api_Column.row p0.Params))), (.d (.sl (List.map TS.row p0.Body)))]), (.row AD w1 (List.map rS v2))]) ?_ ?_
   · refine Af ?_
     unfold T7
     refine Bb (fun f st' => ∃ (v7 : Bool), GH p0 n v2 v7 = some r ∧ f 1 = (.ptr (st.length + 0) 0) ∧ f 3 = (.own (st.length + 1) w1) ∧ f 32 = (.d (.bool v7)) ∧ st' = st ++ [(.box [(.d (.str p0.Name)), (.d (.str p0.From)), (.d (.str p0.At)), (.d (.int .i64 p0.Fuel)), (.d (.sl (List.map T_api_Column.row p0.Params))), (.d (.sl (List.map TS.row p0.Body)))]), (.row AD w1 (List.map rS v2))]) ?_ ?_
     · unfold QR
       refine AB (e_t (em rfl h1)) (by exact rfl) ?_
       refine Ap (e_t eh) ((Am rfl 0).trans rfl) (by exact rfl) ?_
       refine CX (rows := List.map rS [p0.Name]) ((AE (e_t eh) AZ (As f_d AK) rfl DV)) ?_
       obtain ⟨v6, hc_v6, hr⟩ := bind_some hr
       refine AP (Ay (e_t eh) RO AR) ?_
       refine KX n ([p0.Name]) hc_v6 ?_
       refine CS (e_t eh) (Ab (e_t eh) ?_)
       refine Au eh hr (fun hr => ?_) (fun hr => ?_)
       · refine Ah eh (Ah (em rfl eh) (Ah (Ac rfl eh) (An (e_t (Ac rfl (em rfl eh))) e_c (Aa ?_))))
         exact ⟨true, hr, (Ak rfl (Ad rfl h1)), (Ak rfl (Ad rfl h3)), eh, rfl⟩
       refine Aj eh (Ab (e_t (Ad rfl (Ad rfl h3))) (Aj (em rfl eh) ?_))
       refine Bh (row := rS) (AL (e_t eh) (Iz ((Am rfl 1).trans rfl))) ?_
       refine Aj (Ac rfl eh) ?_
       refine Ar (e_t eh) e_c (C8 ?_)
       refine Ao (e_t (Ac rfl (em rfl eh))) (e_t eh) (Aa ?_)
       exact ⟨(decide ((8 : Int) < (v2.length : Int))), hr, (Ak rfl (Ad rfl h1)), (Ak rfl (Ad rfl h3)), eh, rfl⟩
     rintro f st' ⟨v7, hr, h1, h3, h32, rfl⟩
     rw [GH] at hr
     refine Bb (fun f st' => ∃ (v9 : Bool), IE p0 n v2 v9 = some r ∧ f 1 = (.ptr (st.length + 0) 0) ∧ f 3 = (.own (st.length + 1) w1) ∧ f 37 = (.d (.bool v9)) ∧ st' = st ++ [(.box [(.d (.str p0.Name)), (.d (.str p0.From)), (.d (.str p0.At)), (.d (.int .i64 p0.Fuel)), (.d (.sl (List.map T_api_Column.row p0.Params))), (.d (.sl (List.map TS.row p0.Body)))]), (.row AD w1 (List.map rS v2))]) ?_ ?_
     · unfold Qg
       refine Ab (e_t h32) ?_
       refine Au eh hr (fun hr => ?_) (fun hr => ?_)
       · refine Ah eh (Ah (em rfl eh) (Ah (Ac rfl eh) (An (e_t (Ac rfl (em rfl eh))) e_c (Aa ?_))))
         exact ⟨true, hr, (Ad rfl (Ac rfl h1)), (Ad rfl (Ac rfl h3)), eh, rfl⟩
       refine Aj eh (Ab (e_t (Ac rfl h3)) (Aj (em rfl eh) ?_))
       obtain ⟨v8, hc_v8, hr⟩ := bind_some hr
       refine AP (Ay (e_t eh) (Yv ((Am rfl 1).trans rfl)) AR) ?_
       refine KX n v2 hc_v8 ?_
       refine Aj (Ac rfl eh) (CS (e_t eh) (Ao (e_t (Ac rfl (em rfl eh))) (e_t eh) (Aa ?_)))
       exact ⟨(!v8), hr, (Ad rfl (Ac rfl h1)), (Ad rfl (Ac rfl h3)), eh, rfl⟩
     rintro f st' ⟨v9, hr, h1, h3, h37, rfl⟩
     rw [IE] at hr
     refine Bb (fun f st' => ∃ (v11 : Bool), IF p0 n v2 v11 = some r ∧ f 1 = (.ptr (st.length + 0) 0) ∧ f 3 = (.own (st.length + 1) w1) ∧ f 42 = (.d (.bool v11)) ∧ st' = st ++ [(.box [(.d (.str p0.Name)), (.d (.str p0.From)), (.d (.str p0.At)), (.d (.int .i64 p0.Fuel)), (.d (.sl (List.map T_api_Column.row p0.Params))), (.d (.sl (List.map TS.row p0.Body)))]), (.row AD w1 (List.map rS v2))]) ?_ ?_
     · unfold QY
       refine Ab (e_t h37) ?_
       refine Au eh hr (fun hr => ?_) (fun hr => ?_)
       · refine Ah eh (Ah (em rfl eh) (Ah (Ac rfl eh) (An (e_t (Ac rfl (em rfl eh))) e_c (Aa ?_))))
         exact ⟨true, hr, (Ad rfl (Ac rfl h1)), (Ad rfl (Ac rfl h3)), eh, rfl⟩
       refine Aj eh (Ab (e_t (Ac rfl h3)) (Aj (em rfl eh) ?_))
       obtain ⟨v10, hc_v10, hr⟩ := bind_some hr
       refine AP (Ay (e_t eh) (Yv ((Am rfl 1).trans rfl)) AR) ?_
       refine Ad7 v2 hc_v10 ?_
       refine Aj (Ac rfl eh) (CS (e_t eh) (Ao (e_t (Ac rfl (em rfl eh))) (e_t eh) (Aa ?_)))
       exact ⟨(!v10), hr, (Ad rfl (Ac rfl h1)), (Ad rfl (Ac rfl h3)), eh, rfl⟩
     rintro f st' ⟨v11, hr, h1, h3, h42, rfl⟩
     rw [IF] at hr
     unfold PU
     refine Ab (e_t h42) ?_
     refine Au eh hr (fun hr => ?_) (fun hr => ?_)
     · refine Ah eh (Ah (em rfl eh) (Ah (Ac rfl eh) (Ah (Ac rfl (em rfl eh)) (An (e_t (Ad rfl eh)) e_c (Aa ?_)))))
       refine Ae ?_
       exact ⟨true, hr, (Ad rfl (Ac rfl (em rfl h1))), (Ad rfl (Ac rfl (em rfl h3))), eh, rfl⟩
     refine Aj eh ?_
     refine AB (e_t (Ac rfl h1)) (by exact rfl) ?_
     refine Aj (em rfl eh) ?_
     refine Ap (e_t eh) ((Am rfl 0).trans rfl) (by exact rfl) ?_
     refine Aj (Ac rfl eh) ?_
     refine AP (Ay (e_t eh) AG (Ay e_c AG (Ay e_c AG AR))) ?_
     refine Ns p0.Fuel (1 : Int) (2000 : Int) rfl ?_
     refine Aj (Ac rfl (em rfl eh)) (CS (e_t eh) (Ao (e_t (Ad rfl eh)) (e_t eh) (Aa (Ae ?_))))
     exact ⟨(!(C7 p0.Fuel (1 : Int) (2000 : Int))), hr, (Ad rfl (Ac rfl (em rfl h1))), (Ad rfl (Ac rfl (em rfl h3))), eh, rfl⟩
   rintro f st' ⟨v12, hr, h1, h3, h48, rfl⟩
   rw [IC] at hr
   refine AC (e_t h48) hr (fun hr => ?_) (fun hr => ?_)
   · refine Al (Af ?_)
     unfold UX
     refine Ab e_c (Aa (Ae (AI (AA ?_))))
     cases hr
     exact A7 (AF eh AH) (AM AG v_d) (Av hwf) h
   refine AN (Ae (Al (Al (Af ?_))))
   unfold Uo
   refine AB (e_t h1) (by exact rfl) ?_
   refine Ap (e_t eh) ((Am rfl 0).trans rfl) (by exact rfl) ?_
   refine Ar (e_t eh) e_c (MG ?_)
   refine Aa (Ae ?_)
   refine AC (e_t eh) hr (fun hr => ?_) (fun hr => ?_)
   rotate_left
   · refine AN (Ae (Al (Af ?_)))
     unfold Vl
     refine Bo ?_
     unfold Qw
     refine AB (e_t (Ac rfl (em rfl h1))) (by exact rfl) ?_
     refine Ap (e_t eh) ((Am rfl 0).trans rfl) (by exact rfl) ?_
     refine Ar (e_t eh) e_c (Db ?_)
     refine Ab (e_t eh) ?_
     refine Au eh hr (fun hr => ?_) (fun hr => ?_)
     · refine Ah eh (Ah (em rfl eh) (Ah (Ac rfl eh) (Ah (Ac rfl (em rfl eh)) (An (e_t (Ad rfl eh)) e_c (Aa ?_)))))
       unfold Lo
       refine Ab (e_t eh) (Aa (Ae (AI ?_)))
       cases hr
       exact A7 (AF eh AH) (AM AG v_d) (Av hwf) h
     refine Aj eh (Ab (e_t (Ad rfl (Ad rfl h3))) (Aj (em rfl eh) ?_))
     refine AB (e_t (Ak rfl (em rfl h1))) (by exact rfl) ?_
     refine Aj (Ac rfl eh) ?_
     refine Ap (e_t eh) ((Am rfl 0).trans rfl) (by exact rfl) ?_
     refine Aj (Ac rfl (em rfl eh)) ?_
     obtain ⟨v15, hc_v15, hr⟩ := bind_some hr
     refine AP (Ay (e_t (Ac rfl eh)) (Yv ((Am rfl 1).trans rfl)) (Ay (e_t eh) AG AR)) ?_
     refine F4 n v2 p0.At hc_v15 ?_
     refine Ao (e_t (Ad rfl eh)) (e_t eh) (Aa ?_)
     unfold Lo
     refine Ab (e_t eh) (Aa (Ae (AI ?_)))
     cases hr
     exact A7 (AF eh AH) (AM AG v_d) (Av hwf) h
   refine BD (fun f st' => ∃ (v14 : Bool), ID v14 = some r ∧ f 2 = (.d (.bool v14)) ∧ st' = st ++ [(.box [(.d (.str p0.Name)), (.d (.str p0.From)), (.d (.str p0.At)), (.d (.int .i64 p0.Fuel)), (.d (.sl (List.map T_api_Column.row p0.Params))), (.d (.sl (List.map TS.row p0.Body)))]), (.row AD w1 (List.map rS v2))]) ?_ ?_
   rotate_left
   · rintro f st' ⟨v14, hr, h2, rfl⟩
     rw [ID] at hr
     refine AI (AA ?_)
     cases hr
     exact A7 (AF h2 AH) (AM AG v_d) (Av hwf) h
   refine Af ?_
   unfold SD
   refine Bo ?_
   unfold Rb
   refine AB (e_t (Ac rfl (em rfl h1))) (by exact rfl) ?_
   refine Ap (e_t eh) ((Am rfl 0).trans rfl) (by exact rfl) ?_
   refine CX (rows := List.map rS [p0.From]) ((AE (e_t eh) AZ (As f_d AK) rfl DV)) ?_
   obtain ⟨v13, hc_v13, hr⟩ := bind_some hr
   refine AP (Ay (e_t eh) RO AR) ?_
   refine KX n ([p0.From]) hc_v13 ?_
   refine Ab (e_t eh) ?_
   refine Au eh hr (fun hr => ?_) (fun hr => ?_)
   rotate_left
   · refine Ah eh (Ah (em rfl eh) (Ah (Ac rfl eh) (Ao (e_t (Ac rfl (em rfl eh))) e_c (Aa ?_))))
     refine Bo ?_
     unfold LP
     refine Ab (e_t eh) (Ah eh (Ah (em rfl eh) (Ah (Ac rfl eh) (Ao (e_t (Ac rfl (em rfl eh))) e_c (Aa ?_)))))
     unfold Jl
     refine Ab (e_t eh) (Aa (Ae ?_))
     exact ⟨false, hr, eh, rfl⟩
   refine Aj eh (Ab (e_t (Ak rfl (em rfl h3))) (Aj (em rfl eh) ?_))
   refine Bh (row := rS) (AL (e_t eh) (Iz ((Am rfl 1).trans rfl))) ?_
   refine Aj (Ac rfl eh) ?_
   refine Ar (e_t eh) e_c (BZ ?_)
   refine An (e_t (Ac rfl (em rfl eh))) (e_t eh) (Aa ?_)
   refine Bo ?_
   unfold LP
   refine Ab (e_t eh) ?_
   refine Au eh hr (fun hr => ?_) (fun hr => ?_)
   rotate_left
   · refine Ah eh (Ah (em rfl eh) (Ah (Ac rfl eh) (Ao (e_t (Ac rfl (em rfl eh))) e_c (Aa ?_))))
     unfold Jl
     refine Ab (e_t eh) (Aa (Ae ?_))
     exact ⟨false, hr, eh, rfl⟩
   refine Aj eh ?_
   refine AB (e_t (Ak rfl (Ad rfl (Ac rfl (em rfl h1))))) (by exact rfl) ?_
   refine Aj (em rfl eh) ?_
   refine Ap (e_t eh) ((Am rfl 0).trans rfl) (by exact rfl) ?_
   refine Aj (Ac rfl eh) ?_
   refine Ar (e_t eh) e_c (Db ?_)
   refine An (e_t (Ac rfl (em rfl eh))) (e_t eh) (Aa ?_)
   unfold Jl
   refine Ab (e_t eh) (Aa (Ae ?_))
   exact ⟨(decide (p0.At = (⟨#[]⟩ : ByteArray))), hr, eh, rfl⟩
def G8 (p0 : T_Ssize) : Bool :=
 (bif (decide (p0.nodes ≤ (300 : Int))) then (decide (p0.depth ≤ (12 : Int))) else false)
set_option maxRecDepth 100000 in
set_option maxHeartbeats 4000000 in
theorem Z3 (p0 : T_Ssize) {r : Bool} (hr : G8 p0 = r) {x0 : Nat} (hx_x0 : st[x0]? = some (.box [(.d (.int .i64 p0.nodes)), (.d (.int .i64 p0.depth))])) {K : PV → List Content → Prop} (h : K (.d (.bool r)) st) : Aw PR Nc [(.ptr x0 0)] st K := by
 refine Aw.of ZH (Nat.le_of_ble_eq_true rfl) fun hwf => ?_
 rw [Cm]
 refine AQ ?_
 unfold RR
 rw [G8] at hr
 refine Al (Af ?_)
 unfold Oi
 refine Ab e_c (Aa (Ae (Al (Af ?_))))
 unfold Oq
 refine Bo ?_
 unfold Lz
 refine Ab (e_t (em rfl eh)) ?_
 refine Ni (e_t eh) ?_
 refine AB (e_t eh) (by exact rfl) ?_
 refine Ap (e_t eh) (GE hx_x0) (by exact rfl) ?_
 refine Ar (e_t eh) e_c (JE ?_)
 refine Ab (e_t eh) ?_
 refine Au eh hr (fun hr => ?_) (fun hr => ?_)
 rotate_left
 · refine Ah eh (Ah (em rfl eh) (Ah (Ac rfl eh) (Ah (Ac rfl (em rfl eh)) (Ah (Ad rfl eh) (Ao (e_t (Ad rfl (em rfl eh))) e_c ?_)))))
   refine Aa ?_
   unfold Iv
   refine Ab (e_t eh) (Aa (Ae (AI ?_)))
   subst hr
   exact A7 (AF eh AH) (AM AG v_d) (Av hwf) h
 refine Aj eh (Ab (e_t (Ad rfl (Ad rfl eh))) (Aj (em rfl eh) ?_))
 refine Ni (e_t eh) ?_
 refine Aj (Ac rfl eh) ?_
 refine AB (e_t eh) (by exact rfl) ?_
 refine Aj (Ac rfl (em rfl eh)) ?_
 refine Ap (e_t eh) (GE hx_x0) (by exact rfl) ?_
 refine Aj (Ad rfl eh) ?_
 refine Ar (e_t eh) e_c (JE ?_)
 refine An (e_t (Ad rfl (em rfl eh))) (e_t eh) (Aa ?_)
 unfold Iv
 refine Ab (e_t eh) (Aa (Ae (AI ?_)))
 subst hr
 exact A7 (AF eh AH) (AM AG v_d) (Av hwf) h
end Go.Ax
