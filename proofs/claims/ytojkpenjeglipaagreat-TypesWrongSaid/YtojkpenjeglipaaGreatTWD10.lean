import Derived.Test.YtojkpenjeglipaaGreatTWT
import Derived.Test.YtojkpenjeglipaaGreatTCVX
import Derived.Test.YtojkpenjeglipaaGreatTCPrim
import Derived.Test.YtojkpenjeglipaaGreatTWD8
import Derived.Test.YtojkpenjeglipaaGreatTWD9
set_option linter.unusedVariables false
set_option maxRecDepth 100000
set_option maxHeartbeats 4000000
namespace Go.Ax
attribute [local irreducible] BH FA F2 Bf DM Hp Cq V4 Lz upd ev u0 Dh frz A4 EO mmD bnd Ch Gk DU C2 Ie JH FZ cutV NL CO
variable {st : List Content}
def Ks (v14 : Bool) : Option Bool :=
 some v14
def Ky (p0 : TP) (n : Nat) (v2 : (List ByteArray)) (v12 : Bool) : Option Bool :=
 (bif v12 then some false else (bif (!decide (p0.From = (⟨#[]⟩ : ByteArray))) then ((Gt n ([p0.From])).bind fun v13 => (bif v13 then (bif (decide ((v2.length : Int) = (0 : Int))) then (Ks (decide (p0.At = (⟨#[]⟩ : ByteArray)))) else (Ks false)) else (Ks false))) else (bif (decide (p0.At = (⟨#[]⟩ : ByteArray))) then some true else ((BJ n v2 p0.At).bind fun v15 => some v15))))
def KE (p0 : TP) (n : Nat) (v2 : (List ByteArray)) (v11 : Bool) : Option Bool :=
 (bif v11 then (Ky p0 n v2 true) else (Ky p0 n v2 (!(CY p0.Fuel (1 : Int) (2000 : Int)))))
def JZ (p0 : TP) (n : Nat) (v2 : (List ByteArray)) (v9 : Bool) : Option Bool :=
 (bif v9 then (KE p0 n v2 true) else ((TW v2).bind fun v10 => (KE p0 n v2 (!v10))))
def GU (p0 : TP) (n : Nat) (v2 : (List ByteArray)) (v7 : Bool) : Option Bool :=
 (bif v7 then (JZ p0 n v2 true) else ((Gt n v2).bind fun v8 => (JZ p0 n v2 (!v8))))
def RG (p0 : TP) (n : Nat) (q0 : (List ByteArray) → Int → Option Bool) (v2 : (List ByteArray)) (v3 : Int) : Option Bool :=
 (bif (decide (v3 < (p0.Params.length : Int))) then ((Dw p0.Params v3).bind fun v4 => (bif (!(CY v4.Kind (1 : Int) (3 : Int))) then some false else ((MM 16 v2 ([v4.Name])).bind fun v5 => q0 v5 (IntKind.wrap .i64 (v3 + (1 : Int)))))) else ((Gt n ([p0.Name])).bind fun v6 => (bif (!v6) then (GU p0 n v2 true) else (GU p0 n v2 (decide ((8 : Int) < (v2.length : Int)))))))
def Fm (p0 : TP) (n : Nat) : Nat → (List ByteArray) → Int → Option Bool
 | 0, _, _ => none
 | m + 1, v2, v3 => RG p0 n (Fm p0 n m) v2 v3
def WI (n : Nat) (p0 : TP) : Option Bool :=
 (Fm p0 n n ([]) (0 : Int))
theorem BT7 (n : Nat) (p0 : TP) {r : Bool} (hr : WI n p0 = some r) {K : PV → List Content → Prop} (h : K (.d (.bool r)) st) : Aw PR AC7 [(.agg [(.d (.str p0.Name)), (.d (.str p0.From)), (.d (.str p0.At)), (.d (.int .i64 p0.Fuel)), (.d (.sl (List.map T_api_Column.row p0.Params))), (.d (.sl (List.map TS.row p0.Body)))])] st K := by
 refine Aw.of BA3 (Nat.le_of_ble_eq_true rfl) fun hwf => ?_
 rw [CE]
 refine AS ?_
 unfold Be2
 rw [WI] at hr
 refine Al (Af ?_)
 unfold AW7
 refine GV (k := 0) rfl rfl (e_t eh) Bi (by rfl) ?_
 refine Ab e_c (Aa (Ae (Al (Af ?_))))
 unfold AS4
 refine Ab e_c (Aa (Ae (Al (Al (Af ?_)))))
 unfold AY5
 refine AA (e_t (Ac rfl eh)) (by rfl) ?_
 refine Ao (e_t eh) (gx 0 rfl) (by rfl) ?_
 refine Bc (row := T_api_Column.row) (AN (e_t eh) Bo) ?_
 refine Ab e_c (Aa (Ae ?_))
 refine A3 ?_
 refine Cy (fun m f st' => ∃ (v2 : (List ByteArray)), ∃ (v3 : Int), ∃ (w1 : Nat), Fm p0 n m v2 v3 = some r ∧ f 1 = (.ptr (st.length + 0) 0) ∧ f 3 = (.own (st.length + 1) w1) ∧ f 7 = (.d (.sl (List.map T_api_Column.row p0.Params))) ∧ f 8 = (.d (.int .i64 (p0.Params.length : Int))) ∧ f 9 = (.d (.int .i64 v3)) ∧ st' = st ++ [(.box [(.d (.str p0.Name)), (.d (.str p0.From)), (.d (.str p0.At)), (.d (.int .i64 p0.Fuel)), (.d (.sl (List.map T_api_Column.row p0.Params))), (.d (.sl (List.map TS.row p0.Body)))]), (.row Gy w1 (List.map rS v2))]) n (BU9 (k := 1) 3 (List.map rS ([])) Gy 1 rfl rfl (Ad rfl eh) rfl (Qi (fun _ => rfl))) ⟨[], (0 : Int), 0, hr, (Ad rfl (Ac rfl (em rfl eh))), eh, (Ac rfl (em rfl eh)), (Ac rfl eh), (em rfl eh), rfl⟩ ?_
 rintro m f st' ⟨v2, v3, w1, hr, h1, h3, h7, h8, h9, rfl⟩
 cases m with
 | zero => cases hr
 | succ m_0 =>
   rw [Fm] at hr
   generalize hrec_0 : Fm p0 n m_0 = q0 at hr
   rw [RG] at hr
   unfold AS8
   refine Al (Af ?_)
   unfold AY9
   refine Ap (e_t h9) (e_t h8) (Da ?_)
   refine Aa (Ae (Al ?_))
   refine AB (e_t eh) hr (fun hr => ?_) (fun hr => ?_)
   · refine AM (Ae (Al ?_))
     refine A3 ?_
     refine Al (Af ?_)
     unfold AT6
     refine Bt (row := T_api_Column.row) (AN (e_t (em rfl h7)) Bo) (e_t (em rfl h9)) hr T_api_Column.row_eq (fun _ => rfl) (fun v4 hr => ?_)
     refine Ft (e_t eh) (Nat.le_of_ble_eq_true rfl) (by rfl) ?_
     refine Dv (k := 2) rfl rfl ?_
     refine BB (e_t eh) (gx 2 rfl) (e_t (em rfl eh)) Bi rfl (Nat.le_of_ble_eq_true rfl) (by rfl) (cells' := [(.d (.str v4.Name)), (.d (.int .i64 v4.Kind))]) (by rfl) (BD rfl _ _) ?_
     refine Aa (Ae (Al (Al (Af ?_))))
     unfold AY6
     refine AA (e_t eh) (by rfl) ?_
     refine Ao (e_t eh) (gx 2 rfl) (by rfl) ?_
     refine AY (Az (e_t eh) AF (Az e_c AF (Az e_c AF A1))) ?_
     refine VJ v4.Kind (1 : Int) (3 : Int) rfl ?_
     refine CN (e_t eh) (Aa (Ae ?_))
     refine AB (e_t eh) hr (fun hr => ?_) (fun hr => ?_)
     · refine Al (Af ?_)
       unfold AV2
       refine Ab e_c (Aa (Ae (AH (Ay ?_))))
       refine Bw ?_
       refine Ay (Ay ?_)
       refine Bw ?_
       refine Ay ?_
       cases hr
       exact A5 (AE eh AG) (AK AF v_d) (As hwf) h
     refine AM (Ae (Af ?_))
     unfold AW6
     refine Ab (e_t (Ad rfl (Ad rfl h3))) ?_
     refine AA (e_t (Ad rfl (em rfl eh))) (by rfl) ?_
     refine Ao (e_t eh) (gx 2 rfl) (by rfl) ?_
     refine DW (rows := List.map rS [v4.Name]) ((AC (e_t eh) A2 (Au f_d AJ) rfl FJ)) ?_
     refine JL (row := rS) (AN (e_t eh) S4) (fun _ => rfl) (fun _ => rfl) (e_t (Ac rfl (em rfl eh))) (gx 1 rfl) (fun _ => (BD rfl _ _)) hr (fun v5 hr => ?_)
     refine Ab (e_t eh) (Aa ?_)
     refine BQ ?_
     refine Ae (Af ?_)
     unfold AX4
     refine Ap (e_t (Ak rfl (Ad rfl (Ac rfl h9)))) e_c (B4 ?_)
     refine Ab (e_t eh) (Aa (Ae ?_))
     exact ⟨m_0, _, Nat.lt_succ_self m_0, Ghost.cut _ (st.length + 2) (Nat.le_add_right _ _), v5, (IntKind.wrap .i64 (v3 + (1 : Int))), (w1 + 1), (by rw [hrec_0]; exact hr), ((congrArg (cutV _) (Ak rfl (Ad rfl (Ad rfl h1)))).trans (by simp [cutV, AP])), ((congrArg (cutV _) (Ac rfl eh)).trans (by simp [cutV, AP])), ((congrArg (cutV _) (Ak rfl (Ad rfl (Ad rfl h7)))).trans (v_d)), ((congrArg (cutV _) (Ak rfl (Ad rfl (Ad rfl h8)))).trans (v_d)), ((congrArg (cutV _) eh).trans (v_d)), (H1 (l0 := [(.box [(.d (.str p0.Name)), (.d (.str p0.From)), (.d (.str p0.At)), (.d (.int .i64 p0.Fuel)), (.d (.sl (List.map T_api_Column.row p0.Params))), (.d (.sl (List.map TS.row p0.Body)))]), (.row Gy (w1 + 1) (List.map rS v5))]) (l1 := _) hwf rfl rfl rfl)⟩
   refine Dj ?_
   refine A8 ?_
   refine A8 ?_
   refine Fo ?_
   refine Ae (Al ?_)
   refine BL (fun f st' => ∃ (v12 : Bool), Ky p0 n v2 v12 = some r ∧ f 1 = (.ptr (st.length + 0) 0) ∧ f 3 = (.own (st.length + 1) w1) ∧ f 48 = (.d (.bool v12)) ∧ st' = st ++ [(.box [(.d (.str p0.Name)), (.d (.str p0.From)), (.d (.str p0.At)), (.d (.int .i64 p0.Fuel)), (.d (.sl (List.map T_api_Column.row p0.Params))), (.d (.sl (List.map TS.row p0.Body)))]), (.row Gy w1 (List.map rS v2))]) ?_ ?_
   · refine Af ?_
     unfold AC1
     refine Ba (fun f st' => ∃ (v7 : Bool), GU p0 n v2 v7 = some r ∧ f 1 = (.ptr (st.length + 0) 0) ∧ f 3 = (.own (st.length + 1) w1) ∧ f 32 = (.d (.bool v7)) ∧ st' = st ++ [(.box [(.d (.str p0.Name)), (.d (.str p0.From)), (.d (.str p0.At)), (.d (.int .i64 p0.Fuel)), (.d (.sl (List.map T_api_Column.row p0.Params))), (.d (.sl (List.map TS.row p0.Body)))]), (.row Gy w1 (List.map rS v2))]) ?_ ?_
     · unfold Af3
       refine AA (e_t (em rfl h1)) (by rfl) ?_
       refine Ao (e_t eh) (gx 0 rfl) (by rfl) ?_
       refine DW (rows := List.map rS [p0.Name]) ((AC (e_t eh) A2 (Au f_d AJ) rfl FJ)) ?_
       obtain ⟨v6, hc_v6, hr⟩ := bind_some hr
       refine AY (Az (e_t eh) AU8 A1) ?_
       refine Ro n ([p0.Name]) hc_v6 ?_
       refine CN (e_t eh) (Ab (e_t eh) ?_)
       refine Ar eh hr (fun hr => ?_) (fun hr => ?_)
       · refine Ah eh (Ah (em rfl eh) (Ah (Ac rfl eh) (Am (e_t (Ac rfl (em rfl eh))) e_c (Aa ?_))))
         exact ⟨true, hr, (Ak rfl (Ad rfl h1)), (Ak rfl (Ad rfl h3)), eh, rfl⟩
       refine Aj eh (Ab (e_t (Ad rfl (Ad rfl h3))) (Aj (em rfl eh) ?_))
       refine Bc (row := rS) (AN (e_t eh) (Mv (gx 1 rfl))) ?_
       refine Aj (Ac rfl eh) ?_
       refine Ap (e_t eh) e_c (B6 ?_)
       refine An (e_t (Ac rfl (em rfl eh))) (e_t eh) (Aa ?_)
       exact ⟨(decide ((8 : Int) < (v2.length : Int))), hr, (Ak rfl (Ad rfl h1)), (Ak rfl (Ad rfl h3)), eh, rfl⟩
     rintro f st' ⟨v7, hr, h1, h3, h32, rfl⟩
     rw [GU] at hr
     refine Ba (fun f st' => ∃ (v9 : Bool), JZ p0 n v2 v9 = some r ∧ f 1 = (.ptr (st.length + 0) 0) ∧ f 3 = (.own (st.length + 1) w1) ∧ f 37 = (.d (.bool v9)) ∧ st' = st ++ [(.box [(.d (.str p0.Name)), (.d (.str p0.From)), (.d (.str p0.At)), (.d (.int .i64 p0.Fuel)), (.d (.sl (List.map T_api_Column.row p0.Params))), (.d (.sl (List.map TS.row p0.Body)))]), (.row Gy w1 (List.map rS v2))]) ?_ ?_
     · unfold Af7
       refine Ab (e_t h32) ?_
       refine Ar eh hr (fun hr => ?_) (fun hr => ?_)
       · refine Ah eh (Ah (em rfl eh) (Ah (Ac rfl eh) (Am (e_t (Ac rfl (em rfl eh))) e_c (Aa ?_))))
         exact ⟨true, hr, (Ad rfl (Ac rfl h1)), (Ad rfl (Ac rfl h3)), eh, rfl⟩
       refine Aj eh (Ab (e_t (Ac rfl h3)) (Aj (em rfl eh) ?_))
       obtain ⟨v8, hc_v8, hr⟩ := bind_some hr
       refine AY (Az (e_t eh) (Bw1 (gx 1 rfl)) A1) ?_
       refine Ro n v2 hc_v8 ?_
       refine Aj (Ac rfl eh) (CN (e_t eh) (An (e_t (Ac rfl (em rfl eh))) (e_t eh) (Aa ?_)))
       exact ⟨(!v8), hr, (Ad rfl (Ac rfl h1)), (Ad rfl (Ac rfl h3)), eh, rfl⟩
     rintro f st' ⟨v9, hr, h1, h3, h37, rfl⟩
     rw [JZ] at hr
     refine Ba (fun f st' => ∃ (v11 : Bool), KE p0 n v2 v11 = some r ∧ f 1 = (.ptr (st.length + 0) 0) ∧ f 3 = (.own (st.length + 1) w1) ∧ f 42 = (.d (.bool v11)) ∧ st' = st ++ [(.box [(.d (.str p0.Name)), (.d (.str p0.From)), (.d (.str p0.At)), (.d (.int .i64 p0.Fuel)), (.d (.sl (List.map T_api_Column.row p0.Params))), (.d (.sl (List.map TS.row p0.Body)))]), (.row Gy w1 (List.map rS v2))]) ?_ ?_
     · unfold Ak8
       refine Ab (e_t h37) ?_
       refine Ar eh hr (fun hr => ?_) (fun hr => ?_)
       · refine Ah eh (Ah (em rfl eh) (Ah (Ac rfl eh) (Am (e_t (Ac rfl (em rfl eh))) e_c (Aa ?_))))
         exact ⟨true, hr, (Ad rfl (Ac rfl h1)), (Ad rfl (Ac rfl h3)), eh, rfl⟩
       refine Aj eh (Ab (e_t (Ac rfl h3)) (Aj (em rfl eh) ?_))
       obtain ⟨v10, hc_v10, hr⟩ := bind_some hr
       refine AY (Az (e_t eh) (Bw1 (gx 1 rfl)) A1) ?_
       refine Bp9 v2 hc_v10 ?_
       refine Aj (Ac rfl eh) (CN (e_t eh) (An (e_t (Ac rfl (em rfl eh))) (e_t eh) (Aa ?_)))
       exact ⟨(!v10), hr, (Ad rfl (Ac rfl h1)), (Ad rfl (Ac rfl h3)), eh, rfl⟩
     rintro f st' ⟨v11, hr, h1, h3, h42, rfl⟩
     rw [KE] at hr
     unfold Aj2
     refine Ab (e_t h42) ?_
     refine Ar eh hr (fun hr => ?_) (fun hr => ?_)
     · refine Ah eh (Ah (em rfl eh) (Ah (Ac rfl eh) (Ah (Ac rfl (em rfl eh)) (Am (e_t (Ad rfl eh)) e_c (Aa ?_)))))
       refine Ae ?_
       exact ⟨true, hr, (Ad rfl (Ac rfl (em rfl h1))), (Ad rfl (Ac rfl (em rfl h3))), eh, rfl⟩
     refine Aj eh ?_
     refine AA (e_t (Ac rfl h1)) (by rfl) ?_
     refine Aj (em rfl eh) ?_
     refine Ao (e_t eh) (gx 0 rfl) (by rfl) ?_
     refine Aj (Ac rfl eh) ?_
     refine AY (Az (e_t eh) AF (Az e_c AF (Az e_c AF A1))) ?_
     refine VJ p0.Fuel (1 : Int) (2000 : Int) rfl ?_
     refine Aj (Ac rfl (em rfl eh)) (CN (e_t eh) (An (e_t (Ad rfl eh)) (e_t eh) (Aa (Ae ?_))))
     exact ⟨(!(CY p0.Fuel (1 : Int) (2000 : Int))), hr, (Ad rfl (Ac rfl (em rfl h1))), (Ad rfl (Ac rfl (em rfl h3))), eh, rfl⟩
   rintro f st' ⟨v12, hr, h1, h3, h48, rfl⟩
   rw [Ky] at hr
   refine AB (e_t h48) hr (fun hr => ?_) (fun hr => ?_)
   · refine Al (Af ?_)
     unfold AI8
     refine Ab e_c (Aa (Ae (AH (Ay ?_))))
     cases hr
     exact A5 (AE eh AG) (AK AF v_d) (As hwf) h
   refine AM (Ae (Al (Al (Af ?_))))
   unfold AI7
   refine AA (e_t h1) (by rfl) ?_
   refine Ao (e_t eh) (gx 0 rfl) (by rfl) ?_
   refine Ap (e_t eh) e_c (XU ?_)
   refine Aa (Ae ?_)
   refine AB (e_t eh) hr (fun hr => ?_) (fun hr => ?_)
   rotate_left
   · refine AM (Ae (Al (Af ?_)))
     unfold Az9
     refine Bh ?_
     unfold Ag4
     refine AA (e_t (Ac rfl (em rfl h1))) (by rfl) ?_
     refine Ao (e_t eh) (gx 0 rfl) (by rfl) ?_
     refine Ap (e_t eh) e_c (Do ?_)
     refine Ab (e_t eh) ?_
     refine Ar eh hr (fun hr => ?_) (fun hr => ?_)
     · refine Ah eh (Ah (em rfl eh) (Ah (Ac rfl eh) (Ah (Ac rfl (em rfl eh)) (Am (e_t (Ad rfl eh)) e_c (Aa ?_)))))
       unfold S7
       refine Ab (e_t eh) (Aa (Ae (AH ?_)))
       cases hr
       exact A5 (AE eh AG) (AK AF v_d) (As hwf) h
     refine Aj eh (Ab (e_t (Ad rfl (Ad rfl h3))) (Aj (em rfl eh) ?_))
     refine AA (e_t (Ak rfl (em rfl h1))) (by rfl) ?_
     refine Aj (Ac rfl eh) ?_
     refine Ao (e_t eh) (gx 0 rfl) (by rfl) ?_
     refine Aj (Ac rfl (em rfl eh)) ?_
     obtain ⟨v15, hc_v15, hr⟩ := bind_some hr
     refine AY (Az (e_t (Ac rfl eh)) (Bw1 (gx 1 rfl)) (Az (e_t eh) AF A1)) ?_
     refine Gb n v2 p0.At hc_v15 ?_
     refine An (e_t (Ad rfl eh)) (e_t eh) (Aa ?_)
     unfold S7
     refine Ab (e_t eh) (Aa (Ae (AH ?_)))
     cases hr
     exact A5 (AE eh AG) (AK AF v_d) (As hwf) h
   refine BL (fun f st' => ∃ (v14 : Bool), Ks v14 = some r ∧ f 2 = (.d (.bool v14)) ∧ st' = st ++ [(.box [(.d (.str p0.Name)), (.d (.str p0.From)), (.d (.str p0.At)), (.d (.int .i64 p0.Fuel)), (.d (.sl (List.map T_api_Column.row p0.Params))), (.d (.sl (List.map TS.row p0.Body)))]), (.row Gy w1 (List.map rS v2))]) ?_ ?_
   rotate_left
   · rintro f st' ⟨v14, hr, h2, rfl⟩
     rw [Ks] at hr
     refine AH (Ay ?_)
     cases hr
     exact A5 (AE h2 AG) (AK AF v_d) (As hwf) h
   refine Af ?_
   unfold AL1
   refine Bh ?_
   unfold Ab5
   refine AA (e_t (Ac rfl (em rfl h1))) (by rfl) ?_
   refine Ao (e_t eh) (gx 0 rfl) (by rfl) ?_
   refine DW (rows := List.map rS [p0.From]) ((AC (e_t eh) A2 (Au f_d AJ) rfl FJ)) ?_
   obtain ⟨v13, hc_v13, hr⟩ := bind_some hr
   refine AY (Az (e_t eh) AU8 A1) ?_
   refine Ro n ([p0.From]) hc_v13 ?_
   refine Ab (e_t eh) ?_
   refine Ar eh hr (fun hr => ?_) (fun hr => ?_)
   rotate_left
   · refine Ah eh (Ah (em rfl eh) (Ah (Ac rfl eh) (An (e_t (Ac rfl (em rfl eh))) e_c (Aa ?_))))
     refine Bh ?_
     unfold SW
     refine Ab (e_t eh) (Ah eh (Ah (em rfl eh) (Ah (Ac rfl eh) (An (e_t (Ac rfl (em rfl eh))) e_c (Aa ?_)))))
     unfold Ll
     refine Ab (e_t eh) (Aa (Ae ?_))
     exact ⟨false, hr, eh, rfl⟩
   refine Aj eh (Ab (e_t (Ak rfl (em rfl h3))) (Aj (em rfl eh) ?_))
   refine Bc (row := rS) (AN (e_t eh) (Mv (gx 1 rfl))) ?_
   refine Aj (Ac rfl eh) ?_
   refine Ap (e_t eh) e_c (Ci ?_)
   refine Am (e_t (Ac rfl (em rfl eh))) (e_t eh) (Aa ?_)
   refine Bh ?_
   unfold SW
   refine Ab (e_t eh) ?_
   refine Ar eh hr (fun hr => ?_) (fun hr => ?_)
   rotate_left
   · refine Ah eh (Ah (em rfl eh) (Ah (Ac rfl eh) (An (e_t (Ac rfl (em rfl eh))) e_c (Aa ?_))))
     unfold Ll
     refine Ab (e_t eh) (Aa (Ae ?_))
     exact ⟨false, hr, eh, rfl⟩
   refine Aj eh ?_
   refine AA (e_t (Ak rfl (Ad rfl (Ac rfl (em rfl h1))))) (by rfl) ?_
   refine Aj (em rfl eh) ?_
   refine Ao (e_t eh) (gx 0 rfl) (by rfl) ?_
   refine Aj (Ac rfl eh) ?_
   refine Ap (e_t eh) e_c (Do ?_)
   refine Am (e_t (Ac rfl (em rfl eh))) (e_t eh) (Aa ?_)
   unfold Ll
   refine Ab (e_t eh) (Aa (Ae ?_))
   exact ⟨(decide (p0.At = (⟨#[]⟩ : ByteArray))), hr, eh, rfl⟩
def HG (p0 : T_Ssize) : Bool :=
 (bif (decide (p0.nodes ≤ (300 : Int))) then (decide (p0.depth ≤ (12 : Int))) else false)
theorem Bn8 (p0 : T_Ssize) {r : Bool} (hr : HG p0 = r) {x0 : Nat} (hx_x0 : st[x0]? = some (.box [(.d (.int .i64 p0.nodes)), (.d (.int .i64 p0.depth))])) {K : PV → List Content → Prop} (h : K (.d (.bool r)) st) : Aw PR My [(.ptr x0 0)] st K := by
 refine Aw.of Ap6 (Nat.le_of_ble_eq_true rfl) fun hwf => ?_
 rw [CE]
 refine AS ?_
 unfold Uv
 rw [HG] at hr
 refine Al (Af ?_)
 unfold Vb
 refine Ab e_c (Aa (Ae (Al (Af ?_))))
 unfold VH
 refine Bh ?_
 unfold S9
 refine Ab (e_t (em rfl eh)) ?_
 refine Ag1 (e_t eh) ?_
 refine AA (e_t eh) (by rfl) ?_
 refine Ao (e_t eh) (AU9 hx_x0) (by rfl) ?_
 refine Ap (e_t eh) e_c (M5 ?_)
 refine Ab (e_t eh) ?_
 refine Ar eh hr (fun hr => ?_) (fun hr => ?_)
 rotate_left
 · refine Ah eh (Ah (em rfl eh) (Ah (Ac rfl eh) (Ah (Ac rfl (em rfl eh)) (Ah (Ad rfl eh) (An (e_t (Ad rfl (em rfl eh))) e_c ?_)))))
   refine Aa ?_
   unfold JO
   refine Ab (e_t eh) (Aa (Ae (AH ?_)))
   subst hr
   exact A5 (AE eh AG) (AK AF v_d) (As hwf) h
 refine Aj eh (Ab (e_t (Ad rfl (Ad rfl eh))) (Aj (em rfl eh) ?_))
 refine Ag1 (e_t eh) ?_
 refine Aj (Ac rfl eh) ?_
 refine AA (e_t eh) (by rfl) ?_
 refine Aj (Ac rfl (em rfl eh)) ?_
 refine Ao (e_t eh) (AU9 hx_x0) (by rfl) ?_
 refine Aj (Ad rfl eh) ?_
 refine Ap (e_t eh) e_c (M5 ?_)
 refine Am (e_t (Ad rfl (em rfl eh))) (e_t eh) (Aa ?_)
 unfold JO
 refine Ab (e_t eh) (Aa (Ae (AH ?_)))
 subst hr
 exact A5 (AE eh AG) (AK AF v_d) (As hwf) h
def BS (p0 : (List TS)) (fn1 : TS → Option Bool) (q0 : Int → Option Int) (v1 : Int) : Option Int :=
 (bif (decide (v1 < (p0.length : Int))) then ((Dw p0 v1).bind fun v2 => ((fn1 v2).bind fun v3 => (bif v3 then some v1 else q0 (IntKind.wrap .i64 (v1 + (1 : Int)))))) else some (-1))
def AQ (p0 : (List TS)) (fn1 : TS → Option Bool) : Nat → Int → Option Int
 | 0, _ => none
 | m + 1, v1 => BS p0 fn1 (AQ p0 fn1 m) v1
def BG (n : Nat) (p0 : (List TS)) (fn1 : TS → Option Bool) : Option Int :=
 (AQ p0 fn1 n (0 : Int))
theorem I3 (n : Nat) (p0 : (List TS)) (fn1 : TS → Option Bool) {g_fn1 : FuncId} {p_fn1 q_fn1 : List PV} (H_fn1 : ∀ (a0 : TS) {r : Bool}, fn1 a0 = some r → ∀ {st : List Content} {K : PV → List Content → Prop}, K (.d (.bool r)) st → Aw PR g_fn1 (p_fn1 ++ [(.agg [(.d (.int .i64 a0.Op)), (.d (.str a0.Name)), (.d (.str a0.Src)), (.d (.int .i64 a0.N)), (.d (.sl (List.map rS a0.Cols))), (.d (.sl (List.map TE.row a0.Exprs))), (.d (.sl (List.map TS.row a0.Body))), (.d (.sl (List.map TS.row a0.Else)))])] ++ q_fn1) st K) (B_fn1 : ∀ n, (AP.belowL n p_fn1 && AP.belowL n q_fn1) = true) {r : Int} (hr : BG n p0 fn1 = some r) {K : PV → List Content → Prop} (h : K (.d (.int .i64 r)) st) : Aw PR Cb [(.d (.sl (List.map TS.row p0))), (.fn g_fn1 p_fn1 q_fn1)] st K := by
 refine Aw.of E0 (Nat.le_of_ble_eq_true rfl) fun hwf => ?_
 rw [ED]
 refine AS ?_
 unfold C9
 rw [BG] at hr
 refine Al (Af ?_)
 unfold Er
 refine Ab e_c (Aa (Ae (Al (Al (Af ?_)))))
 unfold Eo
 refine Ab (e_t (em rfl eh)) ?_
 refine Bc (row := TS.row) (AN (e_t eh) Bo) ?_
 refine Ab e_c (Aa (Ae ?_))
 refine A3 ?_
 refine Cy (fun m f st' => ∃ (v1 : Int), AQ p0 fn1 m v1 = some r ∧ f 0 = (.d (.sl (List.map TS.row p0))) ∧ f 1 = (.fn g_fn1 p_fn1 q_fn1) ∧ f 7 = (.d (.int .i64 (p0.length : Int))) ∧ f 8 = (.d (.int .i64 v1)) ∧ st' = st ++ []) n (Ghost.refl _) ⟨(0 : Int), hr, (Ad rfl eh), (Ad rfl (em rfl eh)), (em rfl eh), eh, rfl⟩ ?_
 rintro m f st' ⟨v1, hr, h0, h1, h7, h8, rfl⟩
 cases m with
 | zero => cases hr
 | succ m_0 =>
   rw [AQ] at hr
   generalize hrec_0 : AQ p0 fn1 m_0 = q0 at hr
   rw [BS] at hr
   unfold Ef
   refine Al (Af ?_)
   unfold Ej
   refine Ap (e_t h8) (e_t h7) (Da ?_)
   refine Aa (Ae (Al ?_))
   refine AB (e_t eh) hr (fun hr => ?_) (fun hr => ?_)
   rotate_left
   · refine Dj ?_
     refine A8 ?_
     refine A8 ?_
     refine Fo ?_
     refine Ae (Al (Af ?_))
     unfold Ep
     refine Ab e_c (Aa (Ae (AH ?_)))
     cases hr
     exact A5 (AE eh AG) (AK AF v_d) (As hwf) h
   refine AM (Ae (Al ?_))
   refine A3 ?_
   refine Al (Af ?_)
   unfold Em
   refine Ab (e_t (em rfl h8)) (Ab (e_t eh) (Aa (Ae (Al (Af ?_)))))
   unfold En
   refine Ab (e_t (Ac rfl (em rfl h1))) (Ab (e_t (Ad rfl h0)) (Ab (e_t (Ac rfl eh)) ?_))
   refine Bt (row := TS.row) (AN (e_t (em rfl eh)) Bo) (e_t eh) hr TS.row_eq (fun _ => rfl) (fun v2 hr => ?_)
   refine Ft (e_t eh) (Nat.le_of_ble_eq_true rfl) (by rfl) ?_
   obtain ⟨v3, hc_v3, hr⟩ := bind_some hr
   refine BG3 (e_t (Ad rfl eh)) (Az (e_t eh) (Cw (Aq f_d (Aq f_d (Aq f_d (Aq f_d (Aq f_d (Aq f_d (Aq f_d (Aq f_d Dg))))))))) A1) rfl ?_
   refine H_fn1 v2 hc_v3 ?_
   refine Aa (Ae ?_)
   refine AB (e_t eh) hr (fun hr => ?_) (fun hr => ?_)
   rotate_left
   · refine AM ?_
     refine BQ ?_
     refine Ae (Af ?_)
     unfold Et
     refine Ap (e_t (Ak rfl (em rfl h8))) e_c (B4 ?_)
     refine Ab (e_t eh) (Aa (Ae ?_))
     exact ⟨m_0, _, Nat.lt_succ_self m_0, Ghost.refl _, (IntKind.wrap .i64 (v1 + (1 : Int))), (by rw [hrec_0]; exact hr), (Ak rfl (Ac rfl (em rfl h0))), (Ak rfl (Ac rfl (em rfl h1))), (Ak rfl (Ac rfl (em rfl h7))), eh, rfl⟩
   refine Al (Af ?_)
   unfold Ei
   refine Ab (e_t (Ad rfl (Ac rfl eh))) (Ab (e_t eh) (Aa (Ae (AH ?_))))
   refine Bw ?_
   refine Ay (Ay ?_)
   refine Bw ?_
   refine Ay ?_
   cases hr
   exact A5 (AE eh AG) (AK AF v_d) (As hwf) h
def Bu (n : Nat) (p0 : (List TS)) (fn1 : TS → Option Bool) : Option Bool :=
 ((BG n p0 fn1).bind fun v1 => some (decide ((0 : Int) ≤ v1)))
theorem HX (n : Nat) (p0 : (List TS)) (fn1 : TS → Option Bool) {g_fn1 : FuncId} {p_fn1 q_fn1 : List PV} (H_fn1 : ∀ (a0 : TS) {r : Bool}, fn1 a0 = some r → ∀ {st : List Content} {K : PV → List Content → Prop}, K (.d (.bool r)) st → Aw PR g_fn1 (p_fn1 ++ [(.agg [(.d (.int .i64 a0.Op)), (.d (.str a0.Name)), (.d (.str a0.Src)), (.d (.int .i64 a0.N)), (.d (.sl (List.map rS a0.Cols))), (.d (.sl (List.map TE.row a0.Exprs))), (.d (.sl (List.map TS.row a0.Body))), (.d (.sl (List.map TS.row a0.Else)))])] ++ q_fn1) st K) (B_fn1 : ∀ n, (AP.belowL n p_fn1 && AP.belowL n q_fn1) = true) {r : Bool} (hr : Bu n p0 fn1 = some r) {K : PV → List Content → Prop} (h : K (.d (.bool r)) st) : Aw PR BV [(.d (.sl (List.map TS.row p0))), (.fn g_fn1 p_fn1 q_fn1)] st K := by
 refine Aw.of Ey (Nat.le_of_ble_eq_true rfl) fun hwf => ?_
 rw [ED]
 refine AS ?_
 unfold CS
 rw [Bu] at hr
 refine Al (Af ?_)
 unfold DF
 refine Ab e_c (Aa (Ae (Al (Af ?_))))
 unfold DD
 refine Ab (e_t (em rfl eh)) (Ab (e_t (Ac rfl (em rfl eh))) ?_)
 obtain ⟨v1, hc_v1, hr⟩ := bind_some hr
 refine AY (Az (e_t (em rfl eh)) AF (Az (e_t eh) Y3 A1)) ?_
 refine I3 n p0 fn1 H_fn1 B_fn1 hc_v1 ?_
 refine Ap (e_t eh) e_c (E5 ?_)
 refine Ab (e_t eh) (Aa (Ae (AH ?_)))
 cases hr
 exact A5 (AE eh AG) (AK AF v_d) (As hwf) h
def Al7 (p0 : Bool) (p1 : ByteArray) : (List ByteArray) :=
 (bif (!p0) then [] else [p1])
theorem BU2 (p0 : Bool) (p1 : ByteArray) {r : (List ByteArray)} (hr : Al7 p0 p1 = r) {K : PV → List Content → Prop} (h : K (.d (.sl (List.map rS r))) st) : Aw PR Bm1 [(.d (.bool p0)), (.d (.str p1))] st K := by
 refine Aw.of BV9 (Nat.le_of_ble_eq_true rfl) fun hwf => ?_
 rw [ED]
 refine AS ?_
 unfold BM4
 rw [Al7] at hr
 refine Al (Af ?_)
 unfold Br9
 refine Ab e_c (Aa (Ae (Al (Al (Af ?_)))))
 unfold Bq5
 refine Ab (e_t (em rfl eh)) (CN (e_t eh) (Aa (Ae ?_)))
 refine AB (e_t eh) hr (fun hr => ?_) (fun hr => ?_)
 · refine Al (Af ?_)
   unfold Bt2
   refine Ab e_c (Aa (Ae (AH (Ay ?_))))
   subst hr
   exact A5 (AE eh AG) (AK AU8 v_d) (As hwf) h
 refine AM (Ae (Al (Af ?_)))
 unfold Bq6
 refine Ab (e_t (Ad rfl eh)) ?_
 refine DW (rows := List.map rS [p1]) ((AC (e_t eh) A2 (Au f_d AJ) rfl FJ)) ?_
 refine Ab (e_t eh) (Aa (Ae (AH ?_)))
 subst hr
 exact A5 (AE eh AG) (AK AU8 v_d) (As hwf) h
end Go.Ax
