import Derived.Test.YtojkpenjeglipaaGreatTWT
import Derived.Test.YtojkpenjeglipaaGreatTCVX
import Derived.Test.YtojkpenjeglipaaGreatTCPrim
import Derived.Test.YtojkpenjeglipaaGreatTWD2
set_option linter.unusedVariables false
set_option maxRecDepth 100000
set_option maxHeartbeats 4000000
namespace Go.Ax
attribute [local irreducible] BH FA F2 Bf DM Hp Cq V4 Lz upd ev u0 Dh frz A4 EO mmD bnd Ch Gk DU C2 Ie JH FZ cutV NL CO
variable {st : List Content}
def MV (p0 : TP) (v18 : Bool) : Option Bool :=
 (bif v18 then (bif (decide ((1 : Int) ≤ p0.Fuel)) then some (decide (p0.Fuel ≤ (2000 : Int))) else some false) else some false)
def MR (p0 : TP) (v14 : Bool) (v17 : Bool) : Option Bool :=
 (bif v17 then (MV p0 v14) else (MV p0 false))
def MK (p0 : TP) (n : Nat) (v14 : Bool) : Option Bool :=
 ((EE n p0.Name).bind fun v16 => (bif v16 then (MR p0 v14 (decide ((p0.Params.length : Int) ≤ (8 : Int)))) else (MR p0 v14 false)))
def Nh (p0 : TP) (n : Nat) (v14 : Bool) : Option Bool :=
 (bif (!decide (p0.From = (⟨#[]⟩ : ByteArray))) then ((EE n p0.From).bind fun v15 => (bif (!v15) then some false else (bif (decide ((0 : Int) < (p0.Params.length : Int))) then some false else (MK p0 n v14)))) else (MK p0 n v14))
def QA (p0 : TP) (v2 : Int) (q0 : Bool → Int → Option Bool) (v10 : Bool) (q1 : Int → Option Bool) (v11 : Int) : Option Bool :=
 (bif (decide (v11 < v2)) then ((Dw p0.Params v11).bind fun v12 => ((Dw p0.Params v2).bind fun v13 => (bif (decide (v12.Name = v13.Name)) then some false else q1 (IntKind.wrap .i64 (v11 + (1 : Int)))))) else q0 v10 (IntKind.wrap .i64 (v2 + (1 : Int))))
def EM (p0 : TP) (v2 : Int) (q0 : Bool → Int → Option Bool) (v10 : Bool) : Nat → Int → Option Bool
 | 0, _ => none
 | m + 1, v11 => QA p0 v2 q0 v10 (EM p0 v2 q0 v10 m) v11
def Na (p0 : TP) (n : Nat) (v2 : Int) (q0 : Bool → Int → Option Bool) (v10 : Bool) : Option Bool :=
 (EM p0 v2 q0 v10 n (0 : Int))
def MY (p0 : TP) (n : Nat) (v1 : Bool) (v2 : Int) (q0 : Bool → Int → Option Bool) (v8 : Bool) : Option Bool :=
 (bif v8 then some false else (bif v1 then (Na p0 n v2 q0 true) else ((Dw p0.Params v2).bind fun v9 => (Na p0 n v2 q0 (decide (p0.At = v9.Name))))))
def Ns (p0 : TP) (n : Nat) (v1 : Bool) (v2 : Int) (q0 : Bool → Int → Option Bool) (v6 : Bool) : Option Bool :=
 (bif v6 then (MY p0 n v1 v2 q0 true) else ((Dw p0.Params v2).bind fun v7 => (MY p0 n v1 v2 q0 (decide ((3 : Int) < v7.Kind)))))
def Rm (p0 : TP) (n : Nat) (q0 : Bool → Int → Option Bool) (v1 : Bool) (v2 : Int) : Option Bool :=
 (bif (decide (v2 < (p0.Params.length : Int))) then ((Dw p0.Params v2).bind fun v3 => ((EE n v3.Name).bind fun v4 => (bif (!v4) then (Ns p0 n v1 v2 q0 true) else ((Dw p0.Params v2).bind fun v5 => (Ns p0 n v1 v2 q0 (decide (v5.Kind < (1 : Int)))))))) else (Nh p0 n v1))
def Fl (p0 : TP) (n : Nat) : Nat → Bool → Int → Option Bool
 | 0, _, _ => none
 | m + 1, v1, v2 => Rm p0 n (Fl p0 n m) v1 v2
def Vx (n : Nat) (p0 : TP) : Option Bool :=
 (Fl p0 n n (decide (p0.At = (⟨#[]⟩ : ByteArray))) (0 : Int))
theorem BU3 (n : Nat) (p0 : TP) {r : Bool} (hr : Vx n p0 = some r) {K : PV → List Content → Prop} (h : K (.d (.bool r)) st) : Aw PR Ad4 [(.agg [(.d (.str p0.Name)), (.d (.str p0.From)), (.d (.str p0.At)), (.d (.int .i64 p0.Fuel)), (.d (.sl (List.map T_api_Column.row p0.Params))), (.d (.sl (List.map TS.row p0.Body)))])] st K := by
 refine Aw.of By1 (Nat.le_of_ble_eq_true rfl) fun hwf => ?_
 rw [CE]
 refine AS ?_
 unfold Bk1
 rw [Vx] at hr
 refine Al (Af ?_)
 unfold AZ4
 refine GV (k := 0) rfl rfl (e_t eh) Bi (by rfl) ?_
 refine Ab e_c (Aa (Ae (Al (Af ?_))))
 unfold AX0
 refine AA (e_t (em rfl eh)) (by rfl) ?_
 refine Ao (e_t eh) (gx 0 rfl) (by rfl) ?_
 refine Ap (e_t eh) e_c (Do ?_)
 refine Ab (e_t eh) (Aa (Ae ?_))
 refine BL (fun f st' => ∃ (v14 : Bool), Nh p0 n v14 = some r ∧ f 1 = (.ptr (st.length + 0) 0) ∧ f 3 = (.d (.bool v14)) ∧ st' = st ++ [(.box [(.d (.str p0.Name)), (.d (.str p0.From)), (.d (.str p0.At)), (.d (.int .i64 p0.Fuel)), (.d (.sl (List.map T_api_Column.row p0.Params))), (.d (.sl (List.map TS.row p0.Body)))])]) ?_ ?_
 rotate_left
 · rintro f st' ⟨v14, hr, h1, h3, rfl⟩
   rw [Nh] at hr
   refine BL (fun f st' => MK p0 n v14 = some r ∧ f 1 = (.ptr (st.length + 0) 0) ∧ f 3 = (.d (.bool v14)) ∧ st' = st ++ [(.box [(.d (.str p0.Name)), (.d (.str p0.From)), (.d (.str p0.At)), (.d (.int .i64 p0.Fuel)), (.d (.sl (List.map T_api_Column.row p0.Params))), (.d (.sl (List.map TS.row p0.Body)))])]) ?_ ?_
   · refine Al (Af ?_)
     unfold Ay2
     refine AA (e_t h1) (by rfl) ?_
     refine Ao (e_t eh) (gx 0 rfl) (by rfl) ?_
     refine Ap (e_t eh) e_c (XU ?_)
     refine Ab (e_t eh) ?_
     refine Ar eh hr (fun hr => ?_) (fun hr => ?_)
     rotate_left
     · refine Ah eh (Ah (em rfl eh) (Ah (Ac rfl eh) (Ah (Ac rfl (em rfl eh)) (Ah (Ad rfl eh) ?_))))
       refine A6 eh ?_
       refine A6 (em rfl eh) ?_
       refine A6 (Ac rfl eh) ?_
       refine A6 (Ac rfl (em rfl eh)) ?_
       refine Ah (Ak rfl (em rfl eh)) (An (e_t (Ak rfl (Ac rfl eh))) e_c (Aa (Ae ?_)))
       refine FO (e_t eh) ?_
       refine AM (Ae ?_)
       exact ⟨hr, (Ak rfl (Ad rfl (Ad rfl h1))), (Ak rfl (Ad rfl (Ad rfl h3))), rfl⟩
     refine Aj eh ?_
     refine AA (e_t (Ad rfl (em rfl h1))) (by rfl) ?_
     refine Aj (em rfl eh) ?_
     refine Ao (e_t eh) (gx 0 rfl) (by rfl) ?_
     refine Aj (Ac rfl eh) ?_
     obtain ⟨v15, hc_v15, hr⟩ := bind_some hr
     refine AY (Az (e_t eh) AF A1) ?_
     refine MB n p0.From hc_v15 ?_
     refine Aj (Ac rfl (em rfl eh)) (CN (e_t eh) (Aj (Ad rfl eh) (Ab (e_t eh) ?_)))
     refine Ar eh hr (fun hr => ?_) (fun hr => ?_)
     · refine Ah eh (Ah (em rfl eh) (Ah (Ac rfl eh) (Ah (Ac rfl (em rfl eh)) (Aj (Ak rfl (Ac rfl eh)) (Am (e_t (Ad rfl eh)) e_c ?_)))))
       refine Am (e_t (Ak rfl (Ac rfl (em rfl eh)))) (e_t eh) (Aa (Ae ?_))
       refine DC (e_t eh) ?_
       refine Al (Af ?_)
       unfold Xk
       refine Ab e_c (Aa (Ae (AH (Ay ?_))))
       cases hr
       exact A5 (AE eh AG) (AK AF v_d) (As hwf) h
     refine Aj eh ?_
     refine AA (e_t (Ak rfl (Ac rfl (em rfl h1)))) (by rfl) ?_
     refine Aj (em rfl eh) ?_
     refine Ao (e_t eh) (gx 0 rfl) (by rfl) ?_
     refine Aj (Ac rfl eh) ?_
     refine Bc (row := T_api_Column.row) (AN (e_t eh) Bo) ?_
     refine Aj (Ac rfl (em rfl eh)) ?_
     refine Ap (e_t eh) e_c (B6 ?_)
     refine Aj (Ak rfl (Ac rfl eh)) (An (e_t (Ad rfl eh)) (e_t eh) (Am (e_t (Ak rfl (Ac rfl (em rfl eh)))) (e_t eh) (Aa (Ae ?_))))
     refine AB (e_t eh) hr (fun hr => ?_) (fun hr => ?_)
     rotate_left
     · refine AM (Ae ?_)
       exact ⟨hr, (Ai rfl (em rfl h1)), (Ai rfl (em rfl h3)), rfl⟩
     refine Al (Af ?_)
     unfold Xk
     refine Ab e_c (Aa (Ae (AH (Ay ?_))))
     cases hr
     exact A5 (AE eh AG) (AK AF v_d) (As hwf) h
   rintro f st' ⟨hr, h1, h3, rfl⟩
   rw [MK] at hr
   refine Al (Af ?_)
   unfold AE0
   refine Ba (fun f st' => ∃ (v17 : Bool), MR p0 v14 v17 = some r ∧ f 1 = (.ptr (st.length + 0) 0) ∧ f 3 = (.d (.bool v14)) ∧ f 95 = (.d (.bool v17)) ∧ st' = st ++ [(.box [(.d (.str p0.Name)), (.d (.str p0.From)), (.d (.str p0.At)), (.d (.int .i64 p0.Fuel)), (.d (.sl (List.map T_api_Column.row p0.Params))), (.d (.sl (List.map TS.row p0.Body)))])]) ?_ ?_
   · unfold Ak1
     refine AA (e_t h1) (by rfl) ?_
     refine Ao (e_t eh) (gx 0 rfl) (by rfl) ?_
     obtain ⟨v16, hc_v16, hr⟩ := bind_some hr
     refine AY (Az (e_t eh) AF A1) ?_
     refine MB n p0.Name hc_v16 ?_
     refine Ab (e_t eh) ?_
     refine Ar eh hr (fun hr => ?_) (fun hr => ?_)
     rotate_left
     · refine Ah eh (Ah (em rfl eh) (Ah (Ac rfl eh) (Ah (Ac rfl (em rfl eh)) (An (e_t (Ad rfl eh)) e_c (Aa ?_)))))
       exact ⟨false, hr, (Ak rfl (Ac rfl h1)), (Ak rfl (Ac rfl h3)), eh, rfl⟩
     refine Aj eh ?_
     refine AA (e_t (Ad rfl (em rfl h1))) (by rfl) ?_
     refine Aj (em rfl eh) ?_
     refine Ao (e_t eh) (gx 0 rfl) (by rfl) ?_
     refine Aj (Ac rfl eh) ?_
     refine Bc (row := T_api_Column.row) (AN (e_t eh) Bo) ?_
     refine Aj (Ac rfl (em rfl eh)) ?_
     refine Ap (e_t eh) e_c (M5 ?_)
     refine Am (e_t (Ad rfl eh)) (e_t eh) (Aa ?_)
     exact ⟨(decide ((p0.Params.length : Int) ≤ (8 : Int))), hr, (Ak rfl (Ac rfl h1)), (Ak rfl (Ac rfl h3)), eh, rfl⟩
   rintro f st' ⟨v17, hr, h1, h3, h95, rfl⟩
   rw [MR] at hr
   refine Ba (fun f st' => ∃ (v18 : Bool), MV p0 v18 = some r ∧ f 1 = (.ptr (st.length + 0) 0) ∧ f 98 = (.d (.bool v18)) ∧ st' = st ++ [(.box [(.d (.str p0.Name)), (.d (.str p0.From)), (.d (.str p0.At)), (.d (.int .i64 p0.Fuel)), (.d (.sl (List.map T_api_Column.row p0.Params))), (.d (.sl (List.map TS.row p0.Body)))])]) ?_ ?_
   · unfold Af8
     refine Ab (e_t h95) ?_
     refine Ar eh hr (fun hr => ?_) (fun hr => ?_)
     rotate_left
     · refine Ah eh (An (e_t (em rfl eh)) e_c (Aa ?_))
       exact ⟨false, hr, (Ad rfl h1), eh, rfl⟩
     refine Aj eh (Ab (e_t (Ac rfl h3)) (Am (e_t (em rfl eh)) (e_t eh) (Aa ?_)))
     exact ⟨v14, hr, (Ad rfl h1), eh, rfl⟩
   rintro f st' ⟨v18, hr, h1, h98, rfl⟩
   rw [MV] at hr
   refine Bh ?_
   unfold Al2
   refine Ab (e_t h98) ?_
   refine Ar eh hr (fun hr => ?_) (fun hr => ?_)
   rotate_left
   · refine Ah eh (Ah (em rfl eh) (Ah (Ac rfl eh) (An (e_t (Ac rfl (em rfl eh))) e_c (Aa ?_))))
     refine Bh ?_
     unfold Sq
     refine Ab (e_t eh) (Ah eh (Ah (em rfl eh) (Ah (Ac rfl eh) (An (e_t (Ac rfl (em rfl eh))) e_c (Aa ?_)))))
     unfold K5
     refine Ab (e_t eh) (Aa (Ae (AH ?_)))
     cases hr
     exact A5 (AE eh AG) (AK AF v_d) (As hwf) h
   refine Aj eh ?_
   refine AA (e_t (Ac rfl h1)) (by rfl) ?_
   refine Aj (em rfl eh) ?_
   refine Ao (e_t eh) (gx 0 rfl) (by rfl) ?_
   refine Aj (Ac rfl eh) ?_
   refine Ap (e_t eh) e_c (E5 ?_)
   refine Am (e_t (Ac rfl (em rfl eh))) (e_t eh) (Aa ?_)
   refine Bh ?_
   unfold Sq
   refine Ab (e_t eh) ?_
   refine Ar eh hr (fun hr => ?_) (fun hr => ?_)
   rotate_left
   · refine Ah eh (Ah (em rfl eh) (Ah (Ac rfl eh) (An (e_t (Ac rfl (em rfl eh))) e_c (Aa ?_))))
     unfold K5
     refine Ab (e_t eh) (Aa (Ae (AH ?_)))
     cases hr
     exact A5 (AE eh AG) (AK AF v_d) (As hwf) h
   refine Aj eh ?_
   refine AA (e_t (Ad rfl (Ad rfl h1))) (by rfl) ?_
   refine Aj (em rfl eh) ?_
   refine Ao (e_t eh) (gx 0 rfl) (by rfl) ?_
   refine Aj (Ac rfl eh) ?_
   refine Ap (e_t eh) e_c (M5 ?_)
   refine Am (e_t (Ac rfl (em rfl eh))) (e_t eh) (Aa ?_)
   unfold K5
   refine Ab (e_t eh) (Aa (Ae (AH ?_)))
   cases hr
   exact A5 (AE eh AG) (AK AF v_d) (As hwf) h
 refine Al (Af ?_)
 unfold AU0
 refine Ab e_c (Aa (Ae ?_))
 refine A3 ?_
 refine Cy (fun m f st' => ∃ (v1 : Bool), ∃ (v2 : Int), Fl p0 n m v1 v2 = some r ∧ f 1 = (.ptr (st.length + 0) 0) ∧ f 3 = (.d (.bool v1)) ∧ f 4 = (.d (.int .i64 v2)) ∧ st' = st ++ [(.box [(.d (.str p0.Name)), (.d (.str p0.From)), (.d (.str p0.At)), (.d (.int .i64 p0.Fuel)), (.d (.sl (List.map T_api_Column.row p0.Params))), (.d (.sl (List.map TS.row p0.Body)))])]) n (Ghost.refl _) ⟨(decide (p0.At = (⟨#[]⟩ : ByteArray))), (0 : Int), hr, (Ad rfl (Ac rfl eh)), (em rfl eh), eh, rfl⟩ ?_
 rintro m f st' ⟨v1, v2, hr, h1, h3, h4, rfl⟩
 cases m with
 | zero => cases hr
 | succ m_0 =>
   rw [Fl] at hr
   generalize hrec_0 : Fl p0 n m_0 = q0 at hr
   rw [Rm] at hr
   unfold Ay9
   refine Al (Al (Af ?_))
   unfold AT5
   refine Ab (e_t h4) ?_
   refine AA (e_t (em rfl h1)) (by rfl) ?_
   refine Ao (e_t eh) (gx 0 rfl) (by rfl) ?_
   refine Bc (row := T_api_Column.row) (AN (e_t eh) Bo) ?_
   refine Ap (e_t (Ac rfl (em rfl eh))) (e_t eh) (Da ?_)
   refine Aa (Ae ?_)
   refine AB (e_t eh) hr (fun hr => ?_) (fun hr => ?_)
   rotate_left
   · refine Dj ?_
     refine A8 ?_
     refine A8 ?_
     refine Fo ?_
     refine Ae ?_
     exact ⟨v1, hr, (Ad rfl (em rfl h1)), (Ad rfl (em rfl h3)), rfl⟩
   refine AM (Ae (Al ?_))
   refine A3 ?_
   refine Al ?_
   refine BL (fun f st' => ∃ (v8 : Bool), MY p0 n v1 v2 q0 v8 = some r ∧ f 1 = (.ptr (st.length + 0) 0) ∧ f 3 = (.d (.bool v1)) ∧ f 4 = (.d (.int .i64 v2)) ∧ f 41 = (.d (.bool v8)) ∧ st' = st ++ [(.box [(.d (.str p0.Name)), (.d (.str p0.From)), (.d (.str p0.At)), (.d (.int .i64 p0.Fuel)), (.d (.sl (List.map T_api_Column.row p0.Params))), (.d (.sl (List.map TS.row p0.Body)))])]) ?_ ?_
   · refine Af ?_
     unfold AT9
     refine Ba (fun f st' => ∃ (v6 : Bool), Ns p0 n v1 v2 q0 v6 = some r ∧ f 1 = (.ptr (st.length + 0) 0) ∧ f 3 = (.d (.bool v1)) ∧ f 4 = (.d (.int .i64 v2)) ∧ f 32 = (.d (.bool v6)) ∧ st' = st ++ [(.box [(.d (.str p0.Name)), (.d (.str p0.From)), (.d (.str p0.At)), (.d (.int .i64 p0.Fuel)), (.d (.sl (List.map T_api_Column.row p0.Params))), (.d (.sl (List.map TS.row p0.Body)))])]) ?_ ?_
     rotate_left
     · rintro f st' ⟨v6, hr, h1, h3, h4, h32, rfl⟩
       rw [Ns] at hr
       unfold Aq2
       refine Ab (e_t h32) ?_
       refine Ar eh hr (fun hr => ?_) (fun hr => ?_)
       · refine Ah eh (Ah (em rfl eh) (Ah (Ac rfl eh) (Ah (Ac rfl (em rfl eh)) (Ah (Ad rfl eh) (Ah (Ad rfl (em rfl eh)) ?_)))))
         refine Ah (Ad rfl (Ac rfl eh)) (Am (e_t (Ad rfl (Ac rfl (em rfl eh)))) e_c (Aa (Ae ?_)))
         exact ⟨true, hr, (Ak rfl (Ac rfl h1)), (Ak rfl (Ac rfl h3)), (Ak rfl (Ac rfl h4)), eh, rfl⟩
       refine Aj eh ?_
       refine AA (e_t (Ac rfl h1)) (by rfl) ?_
       refine Aj (em rfl eh) ?_
       refine Ao (e_t eh) (gx 0 rfl) (by rfl) ?_
       refine Aj (Ac rfl eh) (Ab (e_t (Ad rfl h4)) (Aj (Ac rfl (em rfl eh)) ?_))
       refine Bt (row := T_api_Column.row) (AN (e_t (em rfl eh)) Bo) (e_t eh) hr T_api_Column.row_eq (fun _ => rfl) (fun v7 hr => ?_)
       refine Aj (Ad rfl eh) ?_
       refine No (e_t eh) (by rfl) ?_
       refine Aj (Ad rfl (em rfl eh)) ?_
       refine BF (e_t eh) (by rfl) ?_
       refine Aj (Ad rfl (Ac rfl eh)) ?_
       refine Ap (e_t eh) e_c (B6 ?_)
       refine An (e_t (Ad rfl (Ac rfl (em rfl eh)))) (e_t eh) (Aa (Ae ?_))
       exact ⟨(decide ((3 : Int) < v7.Kind)), hr, (Ak rfl (Ac rfl h1)), (Ak rfl (Ac rfl h3)), (Ak rfl (Ac rfl h4)), eh, rfl⟩
     unfold Ao8
     refine AA (e_t (Ad rfl (em rfl h1))) (by rfl) ?_
     refine Ao (e_t eh) (gx 0 rfl) (by rfl) ?_
     refine Ab (e_t (Ad rfl (Ac rfl (em rfl h4)))) ?_
     refine Bt (row := T_api_Column.row) (AN (e_t (em rfl eh)) Bo) (e_t eh) hr T_api_Column.row_eq (fun _ => rfl) (fun v3 hr => ?_)
     refine No (e_t eh) (by rfl) ?_
     refine BF (e_t eh) (by rfl) ?_
     obtain ⟨v4, hc_v4, hr⟩ := bind_some hr
     refine AY (Az (e_t eh) AF A1) ?_
     refine MB n v3.Name hc_v4 ?_
     refine CN (e_t eh) (Ab (e_t eh) ?_)
     refine Ar eh hr (fun hr => ?_) (fun hr => ?_)
     · refine Ah eh (Ah (em rfl eh) (Ah (Ac rfl eh) (Ah (Ac rfl (em rfl eh)) (Ah (Ad rfl eh) (Ah (Ad rfl (em rfl eh)) ?_)))))
       refine Ah (Ad rfl (Ac rfl eh)) (Am (e_t (Ad rfl (Ac rfl (em rfl eh)))) e_c (Aa ?_))
       exact ⟨true, hr, (Ai rfl (Ad rfl (Ac rfl (em rfl h1)))), (Ai rfl (Ad rfl (Ac rfl (em rfl h3)))), (Ai rfl (Ad rfl (Ac rfl (em rfl h4)))), eh, rfl⟩
     refine Aj eh ?_
     refine AA (e_t (Ak rfl (Ad rfl (Ac rfl (em rfl h1))))) (by rfl) ?_
     refine Aj (em rfl eh) ?_
     refine Ao (e_t eh) (gx 0 rfl) (by rfl) ?_
     refine Aj (Ac rfl eh) (Ab (e_t (Ai rfl (em rfl h4))) (Aj (Ac rfl (em rfl eh)) ?_))
     refine Bt (row := T_api_Column.row) (AN (e_t (em rfl eh)) Bo) (e_t eh) hr T_api_Column.row_eq (fun _ => rfl) (fun v5 hr => ?_)
     refine Aj (Ad rfl eh) ?_
     refine No (e_t eh) (by rfl) ?_
     refine Aj (Ad rfl (em rfl eh)) ?_
     refine BF (e_t eh) (by rfl) ?_
     refine Aj (Ad rfl (Ac rfl eh)) ?_
     refine Ap (e_t eh) e_c (Da ?_)
     refine An (e_t (Ad rfl (Ac rfl (em rfl eh)))) (e_t eh) (Aa ?_)
     exact ⟨(decide (v5.Kind < (1 : Int))), hr, (Ai rfl (Ad rfl (Ac rfl (em rfl h1)))), (Ai rfl (Ad rfl (Ac rfl (em rfl h3)))), (Ai rfl (Ad rfl (Ac rfl (em rfl h4)))), eh, rfl⟩
   rintro f st' ⟨v8, hr, h1, h3, h4, h41, rfl⟩
   rw [MY] at hr
   refine AB (e_t h41) hr (fun hr => ?_) (fun hr => ?_)
   · refine Al (Af ?_)
     unfold AX8
     refine Ab e_c (Aa (Ae (AH (Ay ?_))))
     refine Bw ?_
     refine Ay (Ay ?_)
     refine Bw ?_
     refine Ay ?_
     cases hr
     exact A5 (AE eh AG) (AK AF v_d) (As hwf) h
   refine AM (Ae ?_)
   refine BL (fun f st' => ∃ (v10 : Bool), Na p0 n v2 q0 v10 = some r ∧ f 1 = (.ptr (st.length + 0) 0) ∧ f 3 = (.d (.bool v10)) ∧ f 4 = (.d (.int .i64 v2)) ∧ st' = st ++ [(.box [(.d (.str p0.Name)), (.d (.str p0.From)), (.d (.str p0.At)), (.d (.int .i64 p0.Fuel)), (.d (.sl (List.map T_api_Column.row p0.Params))), (.d (.sl (List.map TS.row p0.Body)))])]) ?_ ?_
   · refine EQ (k := 1) rfl rfl ?_
     unfold AW1
     refine Bh ?_
     unfold Aq7
     refine Ab (e_t h3) (Ab (e_t eh) ?_)
     refine Ar eh hr (fun hr => ?_) (fun hr => ?_)
     · refine Ah eh (Ah (em rfl eh) (Ah (Ac rfl eh) (Ah (Ac rfl (em rfl eh)) (Ah (Ad rfl eh) (Ah (Ad rfl (em rfl eh)) ?_)))))
       refine Ah (Ad rfl (Ac rfl eh)) (Ah (Ad rfl (Ac rfl (em rfl eh))) (Ah (Ad rfl (Ad rfl eh)) (Am (e_t (Ak rfl (em rfl eh))) e_c (Aa ?_))))
       unfold U0
       refine Ab (e_t eh) (Aa (Ae ?_))
       exact ⟨true, hr, (Ak rfl (Ad rfl (Ac rfl h1))), eh, (Ak rfl (Ad rfl (Ac rfl h4))), rfl⟩
     refine Aj eh ?_
     refine AA (e_t (Ac rfl (em rfl h1))) (by rfl) ?_
     refine Aj (em rfl eh) ?_
     refine Ao (e_t eh) (gx 0 rfl) (by rfl) ?_
     refine Aj (Ac rfl eh) ?_
     refine AA (e_t (Ad rfl (em rfl h1))) (by rfl) ?_
     refine Aj (Ac rfl (em rfl eh)) ?_
     refine Ao (e_t eh) (gx 0 rfl) (by rfl) ?_
     refine Aj (Ad rfl eh) (Ab (e_t (Ad rfl (Ac rfl (em rfl h4)))) (Aj (Ad rfl (em rfl eh)) ?_))
     refine Bt (row := T_api_Column.row) (AN (e_t (em rfl eh)) Bo) (e_t eh) hr T_api_Column.row_eq (fun _ => rfl) (fun v9 hr => ?_)
     refine Aj (Ad rfl (Ac rfl eh)) ?_
     refine No (e_t eh) (by rfl) ?_
     refine Aj (Ad rfl (Ac rfl (em rfl eh))) ?_
     refine BF (e_t eh) (by rfl) ?_
     refine Aj (Ad rfl (Ad rfl eh)) ?_
     refine Ap (e_t (Ad rfl (Ac rfl eh))) (e_t eh) (Do ?_)
     refine An (e_t (Ak rfl (em rfl eh))) (e_t eh) (Aa ?_)
     unfold U0
     refine Ab (e_t eh) (Aa (Ae ?_))
     exact ⟨(decide (p0.At = v9.Name)), hr, (Ak rfl (Ad rfl (Ac rfl h1))), eh, (Ak rfl (Ad rfl (Ac rfl h4))), rfl⟩
   rintro f st' ⟨v10, hr, h1, h3, h4, rfl⟩
   rw [Na] at hr
   refine Al (Af ?_)
   unfold AY3
   refine Ab e_c (Aa (Ae ?_))
   refine A3 ?_
   refine Cy (fun m f st' => ∃ (v11 : Int), EM p0 v2 q0 v10 m v11 = some r ∧ f 1 = (.ptr (st.length + 0) 0) ∧ f 3 = (.d (.bool v10)) ∧ f 4 = (.d (.int .i64 v2)) ∧ f 5 = (.d (.int .i64 v11)) ∧ st' = st ++ [(.box [(.d (.str p0.Name)), (.d (.str p0.From)), (.d (.str p0.At)), (.d (.int .i64 p0.Fuel)), (.d (.sl (List.map T_api_Column.row p0.Params))), (.d (.sl (List.map TS.row p0.Body)))])]) n (Ghost.refl _) ⟨(0 : Int), hr, (em rfl h1), (em rfl h3), (em rfl h4), eh, rfl⟩ ?_
   rintro m f st' ⟨v11, hr, h1, h3, h4, h5, rfl⟩
   cases m with
   | zero => cases hr
   | succ m_1 =>
     rw [EM] at hr
     generalize hrec_1 : EM p0 v2 q0 v10 m_1 = q1 at hr
     rw [QA] at hr
     unfold AA3
     refine Al (Al (Af ?_))
     unfold AX1
     refine Ab (e_t h5) (Ab (e_t (em rfl h4)) ?_)
     refine Ap (e_t (em rfl eh)) (e_t eh) (Da ?_)
     refine Aa (Ae ?_)
     refine AB (e_t eh) hr (fun hr => ?_) (fun hr => ?_)
     rotate_left
     · refine Dj ?_
       refine A8 ?_
       refine A8 ?_
       refine Fo ?_
       refine BQ ?_
       refine Ae (Af ?_)
       unfold AC4
       refine Ab (e_t (Ac rfl (em rfl h4))) ?_
       refine Ap (e_t eh) e_c (B4 ?_)
       refine Ab (e_t eh) (Aa (Ae ?_))
       exact ⟨m_0, _, Nat.lt_succ_self m_0, Ghost.refl _, v10, (IntKind.wrap .i64 (v2 + (1 : Int))), (by rw [hrec_0]; exact hr), (Ad rfl (Ac rfl h1)), (Ad rfl (Ac rfl h3)), eh, rfl⟩
     refine AM (Ae (Al ?_))
     refine A3 ?_
     refine Al ?_
     refine EQ (k := 1) rfl rfl ?_
     unfold AS3
     refine AA (e_t (Ac rfl (em rfl h1))) (by rfl) ?_
     refine Ao (e_t eh) (gx 0 rfl) (by rfl) ?_
     refine Ab (e_t (Ad rfl (em rfl h5))) ?_
     refine Bt (row := T_api_Column.row) (AN (e_t (em rfl eh)) Bo) (e_t eh) hr T_api_Column.row_eq (fun _ => rfl) (fun v12 hr => ?_)
     refine No (e_t eh) (by rfl) ?_
     refine BF (e_t eh) (by rfl) ?_
     refine AA (e_t (Ak rfl (em rfl h1))) (by rfl) ?_
     refine Ao (e_t eh) (gx 0 rfl) (by rfl) ?_
     refine Ab (e_t (Ak rfl (Ac rfl (em rfl h4)))) ?_
     refine Bt (row := T_api_Column.row) (AN (e_t (em rfl eh)) Bo) (e_t eh) hr T_api_Column.row_eq (fun _ => rfl) (fun v13 hr => ?_)
     refine No (e_t eh) (by rfl) ?_
     refine BF (e_t eh) (by rfl) ?_
     refine Ap (e_t (Ad rfl (Ac rfl eh))) (e_t eh) (Do ?_)
     refine Aa (Ae ?_)
     refine AB (e_t eh) hr (fun hr => ?_) (fun hr => ?_)
     rotate_left
     · refine AM ?_
       refine BQ ?_
       refine Ae (Af ?_)
       unfold AN3
       refine Ab (e_t (Ak rfl (Ad rfl (Ad rfl h5)))) ?_
       refine Ap (e_t eh) e_c (B4 ?_)
       refine Ab (e_t eh) (Aa (Ae ?_))
       exact ⟨m_1, _, Nat.lt_succ_self m_1, Ghost.refl _, (IntKind.wrap .i64 (v11 + (1 : Int))), (by rw [hrec_1]; exact hr), (Ai rfl (Ac rfl (em rfl h1))), (Ai rfl (Ac rfl (em rfl h3))), (Ai rfl (Ac rfl (em rfl h4))), eh, rfl⟩
     refine Al (Af ?_)
     unfold AD6
     refine Ab e_c (Aa (Ae (AH ?_)))
     refine Bw ?_
     refine Ay (Ay ?_)
     refine Bw ?_
     refine Bw ?_
     refine Ay (Ay ?_)
     refine Bw ?_
     refine Ay ?_
     cases hr
     exact A5 (AE eh AG) (AK AF v_d) (As hwf) h
def Am1 (p0 : ByteArray) (p1 : Int) (q0 : Int → Option Bool) (v2 : Int) : Option Bool :=
 (bif (decide (v2 < (p0.size : Int))) then ((BF1 p0 v2).bind fun v3 => (bif (decide (v3 = p1)) then some true else q0 (IntKind.wrap .i64 (v2 + (1 : Int))))) else some false)
def I7 (p0 : ByteArray) (p1 : Int) : Nat → Int → Option Bool
 | 0, _ => none
 | m + 1, v2 => Am1 p0 p1 (I7 p0 p1 m) v2
def GY (n : Nat) (p0 : ByteArray) (p1 : Int) : Option Bool :=
 (I7 p0 p1 n (0 : Int))
theorem VR (n : Nat) (p0 : ByteArray) (p1 : Int) {r : Bool} (hr : GY n p0 p1 = some r) {K : PV → List Content → Prop} (h : K (.d (.bool r)) st) : Aw PR Ah2 [(.d (.str p0)), (.d (.int .u8 p1))] st K := by
 refine Aw.of Cf0 (Nat.le_of_ble_eq_true rfl) fun hwf => ?_
 rw [ED]
 refine AS ?_
 unfold BX2
 rw [GY] at hr
 refine Al (Af ?_)
 unfold BE1
 refine Ab e_c (Aa (Ae (Al (Al (Af ?_)))))
 unfold BE7
 refine Ab e_c (Aa (Ae ?_))
 refine A3 ?_
 refine Cy (fun m f st' => ∃ (v2 : Int), I7 p0 p1 m v2 = some r ∧ f 0 = (.d (.str p0)) ∧ f 1 = (.d (.int .u8 p1)) ∧ f 5 = (.d (.int .i64 v2)) ∧ st' = st ++ []) n (Ghost.refl _) ⟨(0 : Int), hr, (Ac rfl eh), (Ac rfl (em rfl eh)), eh, rfl⟩ ?_
 rintro m f st' ⟨v2, hr, h0, h1, h5, rfl⟩
 cases m with
 | zero => cases hr
 | succ m_0 =>
   rw [I7] at hr
   generalize hrec_0 : I7 p0 p1 m_0 = q0 at hr
   rw [Am1] at hr
   unfold Bz7
   refine Al (Al (Af ?_))
   unfold BE2
   refine Ab (e_t h5) (Ab (e_t (em rfl h0)) ?_)
   refine I2 (e_t eh) ?_
   refine Ap (e_t (Ac rfl eh)) (e_t eh) (Da ?_)
   refine Aa (Ae ?_)
   refine AB (e_t eh) hr (fun hr => ?_) (fun hr => ?_)
   rotate_left
   · refine Dj ?_
     refine A8 ?_
     refine A8 ?_
     refine Fo ?_
     refine Ae (Al (Af ?_))
     unfold Bz9
     refine Ab e_c (Aa (Ae (AH ?_)))
     cases hr
     exact A5 (AE eh AG) (AK AF v_d) (As hwf) h
   refine AM (Ae (Al ?_))
   refine A3 ?_
   refine Al (Af ?_)
   unfold BF2
   refine Ab (e_t (Ad rfl h0)) (Ab (e_t (Ad rfl (em rfl h5))) ?_)
   refine Bv3 (e_t (em rfl eh)) (e_t eh) hr (fun v3 hr => ?_)
   refine Ab (e_t (Ad rfl (Ac rfl (em rfl h1)))) ?_
   refine Ap (e_t (em rfl eh)) (e_t eh) (Ci ?_)
   refine Aa (Ae ?_)
   refine AB (e_t eh) hr (fun hr => ?_) (fun hr => ?_)
   rotate_left
   · refine AM ?_
     refine BQ ?_
     refine Ae (Af ?_)
     unfold Bz1
     refine Ab (e_t (Ak rfl (em rfl h5))) ?_
     refine Ap (e_t eh) e_c (B4 ?_)
     refine Ab (e_t eh) (Aa (Ae ?_))
     exact ⟨m_0, _, Nat.lt_succ_self m_0, Ghost.refl _, (IntKind.wrap .i64 (v2 + (1 : Int))), (by rw [hrec_0]; exact hr), (Ak rfl (Ad rfl h0)), (Ak rfl (Ad rfl h1)), eh, rfl⟩
   refine Al (Af ?_)
   unfold BD1
   refine Ab e_c (Aa (Ae (AH ?_)))
   refine Bw ?_
   refine Ay (Ay ?_)
   refine Bw ?_
   refine Ay ?_
   cases hr
   exact A5 (AE eh AG) (AK AF v_d) (As hwf) h
end Go.Ax
