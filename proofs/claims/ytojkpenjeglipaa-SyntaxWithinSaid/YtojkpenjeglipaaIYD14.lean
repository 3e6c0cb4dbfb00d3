import Derived.Test.YtojkpenjeglipaaIYT
import Derived.Test.YtojkpenjeglipaaICVX
import Derived.Test.YtojkpenjeglipaaICPrim
import Derived.Test.YtojkpenjeglipaaIYD11
set_option linter.unusedVariables false
set_option linter.unusedSimpArgs false
namespace Go.Ax
attribute [local irreducible] BL ER FD Bf CF Fz B6 KZ HX upd ev u0 Dt frz A6 EB mmD bnd BV Ft Do CO GU Ht G2 cutV I1 Cv
variable {st : List Content}
def GB (p0 : TP) (v18 : Bool) : Option Bool :=
 (bif v18 then (bif (decide ((1 : Int) ≤ p0.Fuel)) then some (decide (p0.Fuel ≤ (2000 : Int))) else some false) else some false)
def Gt (p0 : TP) (v14 : Bool) (v17 : Bool) : Option Bool :=
 (bif v17 then (GB p0 v14) else (GB p0 false))
def GA (p0 : TP) (n : Nat) (v14 : Bool) : Option Bool :=
 ((Dr n p0.Name).bind fun v16 => (bif v16 then (Gt p0 v14 (decide ((p0.Params.length : Int) ≤ (8 : Int)))) else (Gt p0 v14 false)))
def Gv (p0 : TP) (n : Nat) (v14 : Bool) : Option Bool :=
 (bif (!decide (p0.From = (⟨#[]⟩ : ByteArray))) then ((Dr n p0.From).bind fun v15 => (bif (!v15) then some false else (bif (decide ((0 : Int) < (p0.Params.length : Int))) then some false else (GA p0 n v14)))) else (GA p0 n v14))
def GT (p0 : TP) (v2 : Int) (q0 : Bool → Int → Option Bool) (v10 : Bool) (q1 : Int → Option Bool) (v11 : Int) : Option Bool :=
 (bif (decide (v11 < v2)) then ((Dh p0.Params v11).bind fun v12 => ((Dh p0.Params v2).bind fun v13 => (bif (decide (v12.Name = v13.Name)) then some false else q1 (IntKind.wrap .i64 (v11 + (1 : Int)))))) else q0 v10 (IntKind.wrap .i64 (v2 + (1 : Int))))
def Co (p0 : TP) (v2 : Int) (q0 : Bool → Int → Option Bool) (v10 : Bool) : Nat → Int → Option Bool
 | 0, _ => none
 | m + 1, v11 => GT p0 v2 q0 v10 (Co p0 v2 q0 v10 m) v11
def Gx (p0 : TP) (n : Nat) (v2 : Int) (q0 : Bool → Int → Option Bool) (v10 : Bool) : Option Bool :=
 (Co p0 v2 q0 v10 n (0 : Int))
def GC (p0 : TP) (n : Nat) (v1 : Bool) (v2 : Int) (q0 : Bool → Int → Option Bool) (v8 : Bool) : Option Bool :=
 (bif v8 then some false else (bif v1 then (Gx p0 n v2 q0 true) else ((Dh p0.Params v2).bind fun v9 => (Gx p0 n v2 q0 (decide (p0.At = v9.Name))))))
def GG (p0 : TP) (n : Nat) (v1 : Bool) (v2 : Int) (q0 : Bool → Int → Option Bool) (v6 : Bool) : Option Bool :=
 (bif v6 then (GC p0 n v1 v2 q0 true) else ((Dh p0.Params v2).bind fun v7 => (GC p0 n v1 v2 q0 (decide ((3 : Int) < v7.Kind)))))
def GY (p0 : TP) (n : Nat) (q0 : Bool → Int → Option Bool) (v1 : Bool) (v2 : Int) : Option Bool :=
 (bif (decide (v2 < (p0.Params.length : Int))) then ((Dh p0.Params v2).bind fun v3 => ((Dr n v3.Name).bind fun v4 => (bif (!v4) then (GG p0 n v1 v2 q0 true) else ((Dh p0.Params v2).bind fun v5 => (GG p0 n v1 v2 q0 (decide (v5.Kind < (1 : Int)))))))) else (Gv p0 n v1))
def Cz (p0 : TP) (n : Nat) : Nat → Bool → Int → Option Bool
 | 0, _, _ => none
 | m + 1, v1, v2 => GY p0 n (Cz p0 n m) v1 v2
def Jw (n : Nat) (p0 : TP) : Option Bool :=
 (Cz p0 n n (decide (p0.At = (⟨#[]⟩ : ByteArray))) (0 : Int))
set_option maxRecDepth 100000 in
set_option maxHeartbeats 4000000 in
theorem AJ7 (n : Nat) (p0 : TP) {r : Bool} (hr : Jw n p0 = some r) {K : PV → List Content → Prop} (h : K (.d (.bool r)) st) : Aw PR Zs [(.agg [(.d (.str p0.Name)), (.d (.str p0.From)), (.d (.str p0.At)), (.d (.int .i64 p0.Fuel)), (.d (.sl (List.map T_api_Column.row p0.Params))), (.d (.sl (List.map TS.row p0.Body)))])] st K := by
 refine Aw.of AI3 (Nat.le_of_ble_eq_true rfl) fun hwf => ?_
 rw [Cm]
 refine AQ ?_
 unfold An1
 rw [Jw] at hr
 refine Al (Af ?_)
 unfold WI
 refine Gw (k := 0) rfl rfl (e_t eh) Bg (by exact rfl) ?_
 refine Ab e_c (Aa (Ae (Al (Af ?_))))
 unfold V7
 refine AB (e_t (em rfl eh)) (by exact rfl) ?_
 refine Ap (e_t eh) ((Am rfl 0).trans rfl) (by exact rfl) ?_
 refine Ar (e_t eh) e_c (Db ?_)
 refine Ab (e_t eh) (Aa (Ae ?_))
 refine BD (fun f st' => ∃ (v14 : Bool), Gv p0 n v14 = some r ∧ f 1 = (.ptr (st.length + 0) 0) ∧ f 3 = (.d (.bool v14)) ∧ st' = st ++ [(.box [(.d (.str p0.Name)), (.d (.str p0.From)), (.d (.str p0.At)), (.d (.int .i64 p0.Fuel)), (.d (.sl (List.map T_api_Column.row p0.Params))), (.d (.sl (List.map TS.row p0.Body)))])]) ?_ ?_
 rotate_left
 · rintro f st' ⟨v14, hr, h1, h3, rfl⟩
   rw [Gv] at hr
   refine BD (fun f st' => GA p0 n v14 = some r ∧ f 1 = (.ptr (st.length + 0) 0) ∧ f 3 = (.d (.bool v14)) ∧ st' = st ++ [(.box [(.d (.str p0.Name)), (.d (.str p0.From)), (.d (.str p0.At)), (.d (.int .i64 p0.Fuel)), (.d (.sl (List.map T_api_Column.row p0.Params))), (.d (.sl (List.map TS.row p0.Body)))])]) ?_ ?_
   · refine Al (Af ?_)
     unfold TA
     refine AB (e_t h1) (by exact rfl) ?_
     refine Ap (e_t eh) ((Am rfl 0).trans rfl) (by exact rfl) ?_
     refine Ar (e_t eh) e_c (MG ?_)
     refine Ab (e_t eh) ?_
     refine Au eh hr (fun hr => ?_) (fun hr => ?_)
     rotate_left
     · refine Ah eh (Ah (em rfl eh) (Ah (Ac rfl eh) (Ah (Ac rfl (em rfl eh)) (Ah (Ad rfl eh) ?_))))
       refine A8 eh ?_
       refine A8 (em rfl eh) ?_
       refine A8 (Ac rfl eh) ?_
       refine A8 (Ac rfl (em rfl eh)) ?_
       refine Ah (Ak rfl (em rfl eh)) (Ao (e_t (Ak rfl (Ac rfl eh))) e_c (Aa (Ae ?_)))
       refine EP (e_t eh) ?_
       refine AN (Ae ?_)
       exact ⟨hr, (Ak rfl (Ad rfl (Ad rfl h1))), (Ak rfl (Ad rfl (Ad rfl h3))), rfl⟩
     refine Aj eh ?_
     refine AB (e_t (Ad rfl (em rfl h1))) (by exact rfl) ?_
     refine Aj (em rfl eh) ?_
     refine Ap (e_t eh) ((Am rfl 0).trans rfl) (by exact rfl) ?_
     refine Aj (Ac rfl eh) ?_
     obtain ⟨v15, hc_v15, hr⟩ := bind_some hr
     refine AP (Ay (e_t eh) AG AR) ?_
     refine JV n p0.From hc_v15 ?_
     refine Aj (Ac rfl (em rfl eh)) (CS (e_t eh) (Aj (Ad rfl eh) (Ab (e_t eh) ?_)))
     refine Au eh hr (fun hr => ?_) (fun hr => ?_)
     · refine Ah eh (Ah (em rfl eh) (Ah (Ac rfl eh) (Ah (Ac rfl (em rfl eh)) (Aj (Ak rfl (Ac rfl eh)) (An (e_t (Ad rfl eh)) e_c ?_)))))
       refine An (e_t (Ak rfl (Ac rfl (em rfl eh)))) (e_t eh) (Aa (Ae ?_))
       refine Dz (e_t eh) ?_
       refine Al (Af ?_)
       unfold OM
       refine Ab e_c (Aa (Ae (AI (AA ?_))))
       cases hr
       exact A7 (AF eh AH) (AM AG v_d) (Av hwf) h
     refine Aj eh ?_
     refine AB (e_t (Ak rfl (Ac rfl (em rfl h1)))) (by exact rfl) ?_
     refine Aj (em rfl eh) ?_
     refine Ap (e_t eh) ((Am rfl 0).trans rfl) (by exact rfl) ?_
     refine Aj (Ac rfl eh) ?_
     refine Bh (row := T_api_Column.row) (AL (e_t eh) Bq) ?_
     refine Aj (Ac rfl (em rfl eh)) ?_
     refine Ar (e_t eh) e_c (C8 ?_)
     refine Aj (Ak rfl (Ac rfl eh)) (Ao (e_t (Ad rfl eh)) (e_t eh) (An (e_t (Ak rfl (Ac rfl (em rfl eh)))) (e_t eh) (Aa (Ae ?_))))
     refine AC (e_t eh) hr (fun hr => ?_) (fun hr => ?_)
     rotate_left
     · refine AN (Ae ?_)
       exact ⟨hr, (Ai rfl (em rfl h1)), (Ai rfl (em rfl h3)), rfl⟩
     refine Al (Af ?_)
     unfold OM
     refine Ab e_c (Aa (Ae (AI (AA ?_))))
     cases hr
     exact A7 (AF eh AH) (AM AG v_d) (Av hwf) h
   rintro f st' ⟨hr, h1, h3, rfl⟩
   rw [GA] at hr
   refine Al (Af ?_)
   unfold TD
   refine Bb (fun f st' => ∃ (v17 : Bool), Gt p0 v14 v17 = some r ∧ f 1 = (.ptr (st.length + 0) 0) ∧ f 3 = (.d (.bool v14)) ∧ f 95 = (.d (.bool v17)) ∧ st' = st ++ [(.box [(.d (.str p0.Name)), (.d (.str p0.From)), (.d (.str p0.At)), (.d (.int .i64 p0.Fuel)), (.d (.sl (List.map T_api_Column.row p0.Params))), (.d (.sl (List.map TS.row p0.Body)))])]) ?_ ?_
   · unfold Q0
     refine AB (e_t h1) (by exact rfl) ?_
     refine Ap (e_t eh) ((Am rfl 0).trans rfl) (by exact rfl) ?_
     obtain ⟨v16, hc_v16, hr⟩ := bind_some hr
     refine AP (Ay (e_t eh) AG AR) ?_
     refine JV n p0.Name hc_v16 ?_
     refine Ab (e_t eh) ?_
     refine Au eh hr (fun hr => ?_) (fun hr => ?_)
     rotate_left
     · refine Ah eh (Ah (em rfl eh) (Ah (Ac rfl eh) (Ah (Ac rfl (em rfl eh)) (Ao (e_t (Ad rfl eh)) e_c (Aa ?_)))))
       exact ⟨false, hr, (Ak rfl (Ac rfl h1)), (Ak rfl (Ac rfl h3)), eh, rfl⟩
     refine Aj eh ?_
     refine AB (e_t (Ad rfl (em rfl h1))) (by exact rfl) ?_
     refine Aj (em rfl eh) ?_
     refine Ap (e_t eh) ((Am rfl 0).trans rfl) (by exact rfl) ?_
     refine Aj (Ac rfl eh) ?_
     refine Bh (row := T_api_Column.row) (AL (e_t eh) Bq) ?_
     refine Aj (Ac rfl (em rfl eh)) ?_
     refine Ar (e_t eh) e_c (JE ?_)
     refine An (e_t (Ad rfl eh)) (e_t eh) (Aa ?_)
     exact ⟨(decide ((p0.Params.length : Int) ≤ (8 : Int))), hr, (Ak rfl (Ac rfl h1)), (Ak rfl (Ac rfl h3)), eh, rfl⟩
   rintro f st' ⟨v17, hr, h1, h3, h95, rfl⟩
   rw [Gt] at hr
   refine Bb (fun f st' => ∃ (v18 : Bool), GB p0 v18 = some r ∧ f 1 = (.ptr (st.length + 0) 0) ∧ f 98 = (.d (.bool v18)) ∧ st' = st ++ [(.box [(.d (.str p0.Name)), (.d (.str p0.From)), (.d (.str p0.At)), (.d (.int .i64 p0.Fuel)), (.d (.sl (List.map T_api_Column.row p0.Params))), (.d (.sl (List.map TS.row p0.Body)))])]) ?_ ?_
   · unfold Q5
     refine Ab (e_t h95) ?_
     refine Au eh hr (fun hr => ?_) (fun hr => ?_)
     rotate_left
     · refine Ah eh (Ao (e_t (em rfl eh)) e_c (Aa ?_))
       exact ⟨false, hr, (Ad rfl h1), eh, rfl⟩
     refine Aj eh (Ab (e_t (Ac rfl h3)) (An (e_t (em rfl eh)) (e_t eh) (Aa ?_)))
     exact ⟨v14, hr, (Ad rfl h1), eh, rfl⟩
   rintro f st' ⟨v18, hr, h1, h98, rfl⟩
   rw [GB] at hr
   refine Bo ?_
   unfold Qe
   refine Ab (e_t h98) ?_
   refine Au eh hr (fun hr => ?_) (fun hr => ?_)
   rotate_left
   · refine Ah eh (Ah (em rfl eh) (Ah (Ac rfl eh) (Ao (e_t (Ac rfl (em rfl eh))) e_c (Aa ?_))))
     refine Bo ?_
     unfold LV
     refine Ab (e_t eh) (Ah eh (Ah (em rfl eh) (Ah (Ac rfl eh) (Ao (e_t (Ac rfl (em rfl eh))) e_c (Aa ?_)))))
     unfold Js
     refine Ab (e_t eh) (Aa (Ae (AI ?_)))
     cases hr
     exact A7 (AF eh AH) (AM AG v_d) (Av hwf) h
   refine Aj eh ?_
   refine AB (e_t (Ac rfl h1)) (by exact rfl) ?_
   refine Aj (em rfl eh) ?_
   refine Ap (e_t eh) ((Am rfl 0).trans rfl) (by exact rfl) ?_
   refine Aj (Ac rfl eh) ?_
   refine Ar (e_t eh) e_c (ET ?_)
   refine An (e_t (Ac rfl (em rfl eh))) (e_t eh) (Aa ?_)
   refine Bo ?_
   unfold LV
   refine Ab (e_t eh) ?_
   refine Au eh hr (fun hr => ?_) (fun hr => ?_)
   rotate_left
   · refine Ah eh (Ah (em rfl eh) (Ah (Ac rfl eh) (Ao (e_t (Ac rfl (em rfl eh))) e_c (Aa ?_))))
     unfold Js
     refine Ab (e_t eh) (Aa (Ae (AI ?_)))
     cases hr
     exact A7 (AF eh AH) (AM AG v_d) (Av hwf) h
   refine Aj eh ?_
   refine AB (e_t (Ad rfl (Ad rfl h1))) (by exact rfl) ?_
   refine Aj (em rfl eh) ?_
   refine Ap (e_t eh) ((Am rfl 0).trans rfl) (by exact rfl) ?_
   refine Aj (Ac rfl eh) ?_
   refine Ar (e_t eh) e_c (JE ?_)
   refine An (e_t (Ac rfl (em rfl eh))) (e_t eh) (Aa ?_)
   unfold Js
   refine Ab (e_t eh) (Aa (Ae (AI ?_)))
   cases hr
   exact A7 (AF eh AH) (AM AG v_d) (Av hwf) h
 refine Al (Af ?_)
 unfold V3
 refine Ab e_c (Aa (Ae ?_))
 refine AX ?_
 refine Ca (fun m f st' => ∃ (v1 : Bool), ∃ (v2 : Int), Cz p0 n m v1 v2 = some r ∧ f 1 = (.ptr (st.length + 0) 0) ∧ f 3 = (.d (.bool v1)) ∧ f 4 = (.d (.int .i64 v2)) ∧ st' = st ++ [(.box [(.d (.str p0.Name)), (.d (.str p0.From)), (.d (.str p0.At)), (.d (.int .i64 p0.Fuel)), (.d (.sl (List.map T_api_Column.row p0.Params))), (.d (.sl (List.map TS.row p0.Body)))])]) n (Ghost.refl _) ⟨(decide (p0.At = (⟨#[]⟩ : ByteArray))), (0 : Int), hr, (Ad rfl (Ac rfl eh)), (em rfl eh), eh, rfl⟩ ?_
 rintro m f st' ⟨v1, v2, hr, h1, h3, h4, rfl⟩
 cases m with
 | zero => cases hr
 | succ m_0 =>
   rw [Cz] at hr
   generalize hrec_0 : Cz p0 n m_0 = q0 at hr
   rw [GY] at hr
   unfold SP
   refine Al (Al (Af ?_))
   unfold V5
   refine Ab (e_t h4) ?_
   refine AB (e_t (em rfl h1)) (by exact rfl) ?_
   refine Ap (e_t eh) ((Am rfl 0).trans rfl) (by exact rfl) ?_
   refine Bh (row := T_api_Column.row) (AL (e_t eh) Bq) ?_
   refine Ar (e_t (Ac rfl (em rfl eh))) (e_t eh) (CL ?_)
   refine Aa (Ae ?_)
   refine AC (e_t eh) hr (fun hr => ?_) (fun hr => ?_)
   rotate_left
   · refine CP ?_
     refine A0 ?_
     refine A0 ?_
     refine Ea ?_
     refine Ae ?_
     exact ⟨v1, hr, (Ad rfl (em rfl h1)), (Ad rfl (em rfl h3)), rfl⟩
   refine AN (Ae (Al ?_))
   refine AX ?_
   refine Al ?_
   refine BD (fun f st' => ∃ (v8 : Bool), GC p0 n v1 v2 q0 v8 = some r ∧ f 1 = (.ptr (st.length + 0) 0) ∧ f 3 = (.d (.bool v1)) ∧ f 4 = (.d (.int .i64 v2)) ∧ f 41 = (.d (.bool v8)) ∧ st' = st ++ [(.box [(.d (.str p0.Name)), (.d (.str p0.From)), (.d (.str p0.At)), (.d (.int .i64 p0.Fuel)), (.d (.sl (List.map T_api_Column.row p0.Params))), (.d (.sl (List.map TS.row p0.Body)))])]) ?_ ?_
   · refine Af ?_
     unfold W9
     refine Bb (fun f st' => ∃ (v6 : Bool), GG p0 n v1 v2 q0 v6 = some r ∧ f 1 = (.ptr (st.length + 0) 0) ∧ f 3 = (.d (.bool v1)) ∧ f 4 = (.d (.int .i64 v2)) ∧ f 32 = (.d (.bool v6)) ∧ st' = st ++ [(.box [(.d (.str p0.Name)), (.d (.str p0.From)), (.d (.str p0.At)), (.d (.int .i64 p0.Fuel)), (.d (.sl (List.map T_api_Column.row p0.Params))), (.d (.sl (List.map TS.row p0.Body)))])]) ?_ ?_
     rotate_left
     · rintro f st' ⟨v6, hr, h1, h3, h4, h32, rfl⟩
       rw [GG] at hr
       unfold R9
       refine Ab (e_t h32) ?_
       refine Au eh hr (fun hr => ?_) (fun hr => ?_)
       · refine Ah eh (Ah (em rfl eh) (Ah (Ac rfl eh) (Ah (Ac rfl (em rfl eh)) (Ah (Ad rfl eh) (Ah (Ad rfl (em rfl eh)) ?_)))))
         refine Ah (Ad rfl (Ac rfl eh)) (An (e_t (Ad rfl (Ac rfl (em rfl eh)))) e_c (Aa (Ae ?_)))
         exact ⟨true, hr, (Ak rfl (Ac rfl h1)), (Ak rfl (Ac rfl h3)), (Ak rfl (Ac rfl h4)), eh, rfl⟩
       refine Aj eh ?_
       refine AB (e_t (Ac rfl h1)) (by exact rfl) ?_
       refine Aj (em rfl eh) ?_
       refine Ap (e_t eh) ((Am rfl 0).trans rfl) (by exact rfl) ?_
       refine Aj (Ac rfl eh) (Ab (e_t (Ad rfl h4)) (Aj (Ac rfl (em rfl eh)) ?_))
       refine Bt (row := T_api_Column.row) (AL (e_t (em rfl eh)) Bq) (e_t eh) hr T_api_Column.row_eq (fun _ => rfl) (fun v7 hr => ?_)
       refine Aj (Ad rfl eh) ?_
       refine MV (e_t eh) (by exact rfl) ?_
       refine Aj (Ad rfl (em rfl eh)) ?_
       refine BG (e_t eh) (by exact rfl) ?_
       refine Aj (Ad rfl (Ac rfl eh)) ?_
       refine Ar (e_t eh) e_c (C8 ?_)
       refine Ao (e_t (Ad rfl (Ac rfl (em rfl eh)))) (e_t eh) (Aa (Ae ?_))
       exact ⟨(decide ((3 : Int) < v7.Kind)), hr, (Ak rfl (Ac rfl h1)), (Ak rfl (Ac rfl h3)), (Ak rfl (Ac rfl h4)), eh, rfl⟩
     unfold RN
     refine AB (e_t (Ad rfl (em rfl h1))) (by exact rfl) ?_
     refine Ap (e_t eh) ((Am rfl 0).trans rfl) (by exact rfl) ?_
     refine Ab (e_t (Ad rfl (Ac rfl (em rfl h4)))) ?_
     refine Bt (row := T_api_Column.row) (AL (e_t (em rfl eh)) Bq) (e_t eh) hr T_api_Column.row_eq (fun _ => rfl) (fun v3 hr => ?_)
     refine MV (e_t eh) (by exact rfl) ?_
     refine BG (e_t eh) (by exact rfl) ?_
     obtain ⟨v4, hc_v4, hr⟩ := bind_some hr
     refine AP (Ay (e_t eh) AG AR) ?_
     refine JV n v3.Name hc_v4 ?_
     refine CS (e_t eh) (Ab (e_t eh) ?_)
     refine Au eh hr (fun hr => ?_) (fun hr => ?_)
     · refine Ah eh (Ah (em rfl eh) (Ah (Ac rfl eh) (Ah (Ac rfl (em rfl eh)) (Ah (Ad rfl eh) (Ah (Ad rfl (em rfl eh)) ?_)))))
       refine Ah (Ad rfl (Ac rfl eh)) (An (e_t (Ad rfl (Ac rfl (em rfl eh)))) e_c (Aa ?_))
       exact ⟨true, hr, (Ai rfl (Ad rfl (Ac rfl (em rfl h1)))), (Ai rfl (Ad rfl (Ac rfl (em rfl h3)))), (Ai rfl (Ad rfl (Ac rfl (em rfl h4)))), eh, rfl⟩
     refine Aj eh ?_
     refine AB (e_t (Ak rfl (Ad rfl (Ac rfl (em rfl h1))))) (by exact rfl) ?_
     refine Aj (em rfl eh) ?_
     refine Ap (e_t eh) ((Am rfl 0).trans rfl) (by exact rfl) ?_
     refine Aj (Ac rfl eh) (Ab (e_t (Ai rfl (em rfl h4))) (Aj (Ac rfl (em rfl eh)) ?_))
     refine Bt (row := T_api_Column.row) (AL (e_t (em rfl eh)) Bq) (e_t eh) hr T_api_Column.row_eq (fun _ => rfl) (fun v5 hr => ?_)
     refine Aj (Ad rfl eh) ?_
     refine MV (e_t eh) (by exact rfl) ?_
     refine Aj (Ad rfl (em rfl eh)) ?_
     refine BG (e_t eh) (by exact rfl) ?_
     refine Aj (Ad rfl (Ac rfl eh)) ?_
     refine Ar (e_t eh) e_c (CL ?_)
     refine Ao (e_t (Ad rfl (Ac rfl (em rfl eh)))) (e_t eh) (Aa ?_)
     exact ⟨(decide (v5.Kind < (1 : Int))), hr, (Ai rfl (Ad rfl (Ac rfl (em rfl h1)))), (Ai rfl (Ad rfl (Ac rfl (em rfl h3)))), (Ai rfl (Ad rfl (Ac rfl (em rfl h4)))), eh, rfl⟩
   rintro f st' ⟨v8, hr, h1, h3, h4, h41, rfl⟩
   rw [GC] at hr
   refine AC (e_t h41) hr (fun hr => ?_) (fun hr => ?_)
   · refine Al (Af ?_)
     unfold VW
     refine Ab e_c (Aa (Ae (AI (AA ?_))))
     refine BE ?_
     refine AA (AA ?_)
     refine BE ?_
     refine AA ?_
     cases hr
     exact A7 (AF eh AH) (AM AG v_d) (Av hwf) h
   refine AN (Ae ?_)
   refine BD (fun f st' => ∃ (v10 : Bool), Gx p0 n v2 q0 v10 = some r ∧ f 1 = (.ptr (st.length + 0) 0) ∧ f 3 = (.d (.bool v10)) ∧ f 4 = (.d (.int .i64 v2)) ∧ st' = st ++ [(.box [(.d (.str p0.Name)), (.d (.str p0.From)), (.d (.str p0.At)), (.d (.int .i64 p0.Fuel)), (.d (.sl (List.map T_api_Column.row p0.Params))), (.d (.sl (List.map TS.row p0.Body)))])]) ?_ ?_
   · refine DI (k := 1) rfl rfl ?_
     unfold V0
     refine Bo ?_
     unfold RK
     refine Ab (e_t h3) (Ab (e_t eh) ?_)
     refine Au eh hr (fun hr => ?_) (fun hr => ?_)
     · refine Ah eh (Ah (em rfl eh) (Ah (Ac rfl eh) (Ah (Ac rfl (em rfl eh)) (Ah (Ad rfl eh) (Ah (Ad rfl (em rfl eh)) ?_)))))
       refine Ah (Ad rfl (Ac rfl eh)) (Ah (Ad rfl (Ac rfl (em rfl eh))) (Ah (Ad rfl (Ad rfl eh)) (An (e_t (Ak rfl (em rfl eh))) e_c (Aa ?_))))
       unfold Nh
       refine Ab (e_t eh) (Aa (Ae ?_))
       exact ⟨true, hr, (Ak rfl (Ad rfl (Ac rfl h1))), eh, (Ak rfl (Ad rfl (Ac rfl h4))), rfl⟩
     refine Aj eh ?_
     refine AB (e_t (Ac rfl (em rfl h1))) (by exact rfl) ?_
     refine Aj (em rfl eh) ?_
     refine Ap (e_t eh) ((Am rfl 0).trans rfl) (by exact rfl) ?_
     refine Aj (Ac rfl eh) ?_
     refine AB (e_t (Ad rfl (em rfl h1))) (by exact rfl) ?_
     refine Aj (Ac rfl (em rfl eh)) ?_
     refine Ap (e_t eh) ((Am rfl 0).trans rfl) (by exact rfl) ?_
     refine Aj (Ad rfl eh) (Ab (e_t (Ad rfl (Ac rfl (em rfl h4)))) (Aj (Ad rfl (em rfl eh)) ?_))
     refine Bt (row := T_api_Column.row) (AL (e_t (em rfl eh)) Bq) (e_t eh) hr T_api_Column.row_eq (fun _ => rfl) (fun v9 hr => ?_)
     refine Aj (Ad rfl (Ac rfl eh)) ?_
     refine MV (e_t eh) (by exact rfl) ?_
     refine Aj (Ad rfl (Ac rfl (em rfl eh))) ?_
     refine BG (e_t eh) (by exact rfl) ?_
     refine Aj (Ad rfl (Ad rfl eh)) ?_
     refine Ar (e_t (Ad rfl (Ac rfl eh))) (e_t eh) (Db ?_)
     refine Ao (e_t (Ak rfl (em rfl eh))) (e_t eh) (Aa ?_)
     unfold Nh
     refine Ab (e_t eh) (Aa (Ae ?_))
     exact ⟨(decide (p0.At = v9.Name)), hr, (Ak rfl (Ad rfl (Ac rfl h1))), eh, (Ak rfl (Ad rfl (Ac rfl h4))), rfl⟩
   rintro f st' ⟨v10, hr, h1, h3, h4, rfl⟩
   rw [Gx] at hr
   refine Al (Af ?_)
   unfold WQ
   refine Ab e_c (Aa (Ae ?_))
   refine AX ?_
   refine Ca (fun m f st' => ∃ (v11 : Int), Co p0 v2 q0 v10 m v11 = some r ∧ f 1 = (.ptr (st.length + 0) 0) ∧ f 3 = (.d (.bool v10)) ∧ f 4 = (.d (.int .i64 v2)) ∧ f 5 = (.d (.int .i64 v11)) ∧ st' = st ++ [(.box [(.d (.str p0.Name)), (.d (.str p0.From)), (.d (.str p0.At)), (.d (.int .i64 p0.Fuel)), (.d (.sl (List.map T_api_Column.row p0.Params))), (.d (.sl (List.map TS.row p0.Body)))])]) n (Ghost.refl _) ⟨(0 : Int), hr, (em rfl h1), (em rfl h3), (em rfl h4), eh, rfl⟩ ?_
   rintro m f st' ⟨v11, hr, h1, h3, h4, h5, rfl⟩
   cases m with
   | zero => cases hr
   | succ m_1 =>
     rw [Co] at hr
     generalize hrec_1 : Co p0 v2 q0 v10 m_1 = q1 at hr
     rw [GT] at hr
     unfold S5
     refine Al (Al (Af ?_))
     unfold VL
     refine Ab (e_t h5) (Ab (e_t (em rfl h4)) ?_)
     refine Ar (e_t (em rfl eh)) (e_t eh) (CL ?_)
     refine Aa (Ae ?_)
     refine AC (e_t eh) hr (fun hr => ?_) (fun hr => ?_)
     rotate_left
     · refine CP ?_
       refine A0 ?_
       refine A0 ?_
       refine Ea ?_
       refine BA ?_
       refine Ae (Af ?_)
       unfold SO
       refine Ab (e_t (Ac rfl (em rfl h4))) ?_
       refine Ar (e_t eh) e_c (BX ?_)
       refine Ab (e_t eh) (Aa (Ae ?_))
       exact ⟨m_0, _, Nat.lt_succ_self m_0, Ghost.refl _, v10, (IntKind.wrap .i64 (v2 + (1 : Int))), (by rw [hrec_0]; exact hr), (Ad rfl (Ac rfl h1)), (Ad rfl (Ac rfl h3)), eh, rfl⟩
     refine AN (Ae (Al ?_))
     refine AX ?_
     refine Al ?_
     refine DI (k := 1) rfl rfl ?_
     unfold V9
     refine AB (e_t (Ac rfl (em rfl h1))) (by exact rfl) ?_
     refine Ap (e_t eh) ((Am rfl 0).trans rfl) (by exact rfl) ?_
     refine Ab (e_t (Ad rfl (em rfl h5))) ?_
     refine Bt (row := T_api_Column.row) (AL (e_t (em rfl eh)) Bq) (e_t eh) hr T_api_Column.row_eq (fun _ => rfl) (fun v12 hr => ?_)
     refine MV (e_t eh) (by exact rfl) ?_
     refine BG (e_t eh) (by exact rfl) ?_
     refine AB (e_t (Ak rfl (em rfl h1))) (by exact rfl) ?_
     refine Ap (e_t eh) ((Am rfl 0).trans rfl) (by exact rfl) ?_
     refine Ab (e_t (Ak rfl (Ac rfl (em rfl h4)))) ?_
     refine Bt (row := T_api_Column.row) (AL (e_t (em rfl eh)) Bq) (e_t eh) hr T_api_Column.row_eq (fun _ => rfl) (fun v13 hr => ?_)
     refine MV (e_t eh) (by exact rfl) ?_
     refine BG (e_t eh) (by exact rfl) ?_
     refine Ar (e_t (Ad rfl (Ac rfl eh))) (e_t eh) (Db ?_)
     refine Aa (Ae ?_)
     refine AC (e_t eh) hr (fun hr => ?_) (fun hr => ?_)
     rotate_left
     · refine AN ?_
       refine BA ?_
       refine Ae (Af ?_)
       unfold SA
       refine Ab (e_t (Ak rfl (Ad rfl (Ad rfl h5)))) ?_
       refine Ar (e_t eh) e_c (BX ?_)
       refine Ab (e_t eh) (Aa (Ae ?_))
       exact ⟨m_1, _, Nat.lt_succ_self m_1, Ghost.refl _, (IntKind.wrap .i64 (v11 + (1 : Int))), (by rw [hrec_1]; exact hr), (Ai rfl (Ac rfl (em rfl h1))), (Ai rfl (Ac rfl (em rfl h3))), (Ai rfl (Ac rfl (em rfl h4))), eh, rfl⟩
     refine Al (Af ?_)
     unfold Tq
     refine Ab e_c (Aa (Ae (AI ?_)))
     refine BE ?_
     refine AA (AA ?_)
     refine BE ?_
     refine BE ?_
     refine AA (AA ?_)
     refine BE ?_
     refine AA ?_
     cases hr
     exact A7 (AF eh AH) (AM AG v_d) (Av hwf) h
def JP (p0 : ByteArray) (p1 : Int) (q0 : Int → Option Bool) (v2 : Int) : Option Bool :=
 (bif (decide (v2 < (p0.size : Int))) then ((Al5 p0 v2).bind fun v3 => (bif (decide (v3 = p1)) then some true else q0 (IntKind.wrap .i64 (v2 + (1 : Int))))) else some false)
def EG (p0 : ByteArray) (p1 : Int) : Nat → Int → Option Bool
 | 0, _ => none
 | m + 1, v2 => JP p0 p1 (EG p0 p1 m) v2
def FP (n : Nat) (p0 : ByteArray) (p1 : Int) : Option Bool :=
 (EG p0 p1 n (0 : Int))
set_option maxRecDepth 100000 in
set_option maxHeartbeats 4000000 in
theorem Ou (n : Nat) (p0 : ByteArray) (p1 : Int) {r : Bool} (hr : FP n p0 p1 = some r) {K : PV → List Content → Prop} (h : K (.d (.bool r)) st) : Aw PR RM [(.d (.str p0)), (.d (.int .u8 p1))] st K := by
 refine Aw.of AS3 (Nat.le_of_ble_eq_true rfl) fun hwf => ?_
 rw [DX]
 refine AQ ?_
 unfold AO3
 rw [FP] at hr
 refine Al (Af ?_)
 unfold Ap2
 refine Ab e_c (Aa (Ae (Al (Al (Af ?_)))))
 unfold Aq0
 refine Ab e_c (Aa (Ae ?_))
 refine AX ?_
 refine Ca (fun m f st' => ∃ (v2 : Int), EG p0 p1 m v2 = some r ∧ f 0 = (.d (.str p0)) ∧ f 1 = (.d (.int .u8 p1)) ∧ f 5 = (.d (.int .i64 v2)) ∧ st' = st ++ []) n (Ghost.refl _) ⟨(0 : Int), hr, (Ac rfl eh), (Ac rfl (em rfl eh)), eh, rfl⟩ ?_
 rintro m f st' ⟨v2, hr, h0, h1, h5, rfl⟩
 cases m with
 | zero => cases hr
 | succ m_0 =>
   rw [EG] at hr
   generalize hrec_0 : EG p0 p1 m_0 = q0 at hr
   rw [JP] at hr
   unfold Al1
   refine Al (Al (Af ?_))
   unfold Am8
   refine Ab (e_t h5) (Ab (e_t (em rfl h0)) ?_)
   refine H4 (e_t eh) ?_
   refine Ar (e_t (Ac rfl eh)) (e_t eh) (CL ?_)
   refine Aa (Ae ?_)
   refine AC (e_t eh) hr (fun hr => ?_) (fun hr => ?_)
   rotate_left
   · refine CP ?_
     refine A0 ?_
     refine A0 ?_
     refine Ea ?_
     refine Ae (Al (Af ?_))
     unfold Ar8
     refine Ab e_c (Aa (Ae (AI ?_)))
     cases hr
     exact A7 (AF eh AH) (AM AG v_d) (Av hwf) h
   refine AN (Ae (Al ?_))
   refine AX ?_
   refine Al (Af ?_)
   unfold Ak7
   refine Ab (e_t (Ad rfl h0)) (Ab (e_t (Ad rfl (em rfl h5))) ?_)
   refine Ah1 (e_t (em rfl eh)) (e_t eh) hr (fun v3 hr => ?_)
   refine Ab (e_t (Ad rfl (Ac rfl (em rfl h1)))) ?_
   refine Ar (e_t (em rfl eh)) (e_t eh) (BZ ?_)
   refine Aa (Ae ?_)
   refine AC (e_t eh) hr (fun hr => ?_) (fun hr => ?_)
   rotate_left
   · refine AN ?_
     refine BA ?_
     refine Ae (Af ?_)
     unfold Am4
     refine Ab (e_t (Ak rfl (em rfl h5))) ?_
     refine Ar (e_t eh) e_c (BX ?_)
     refine Ab (e_t eh) (Aa (Ae ?_))
     exact ⟨m_0, _, Nat.lt_succ_self m_0, Ghost.refl _, (IntKind.wrap .i64 (v2 + (1 : Int))), (by rw [hrec_0]; exact hr), (Ak rfl (Ad rfl h0)), (Ak rfl (Ad rfl h1)), eh, rfl⟩
   refine Al (Af ?_)
   unfold Al0
   refine Ab e_c (Aa (Ae (AI ?_)))
   refine BE ?_
   refine AA (AA ?_)
   refine BE ?_
   refine AA ?_
   cases hr
   exact A7 (AF eh AH) (AM AG v_d) (Av hwf) h
end Go.Ax
