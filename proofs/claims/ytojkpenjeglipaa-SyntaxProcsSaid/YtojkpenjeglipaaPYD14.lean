import Derived.Test.YtojkpenjeglipaaPYT
import Derived.Test.YtojkpenjeglipaaPCVX
import Derived.Test.YtojkpenjeglipaaPCPrim
import Derived.Test.YtojkpenjeglipaaPYD11
set_option linter.unusedVariables false
set_option linter.unusedSimpArgs false
namespace Go.Ax
attribute [local irreducible] BQ EX FK Bg CQ FI B8 Le Ii upd ev u0 Dw frz A9 EK mmD bnd B2 FD Dq CR G3 HS Hg cutV JT Cy
variable {st : List Content}
def GM (p0 : TP) (v18 : Bool) : Option Bool :=
 (bif v18 then (bif (decide ((1 : Int) ≤ p0.Fuel)) then some (decide (p0.Fuel ≤ (2000 : Int))) else some false) else some false)
def GG (p0 : TP) (v14 : Bool) (v17 : Bool) : Option Bool :=
 (bif v17 then (GM p0 v14) else (GM p0 false))
def GF (p0 : TP) (n : Nat) (v14 : Bool) : Option Bool :=
 ((Du n p0.Name).bind fun v16 => (bif v16 then (GG p0 v14 (decide ((p0.Params.length : Int) ≤ (8 : Int)))) else (GG p0 v14 false)))
def GN (p0 : TP) (n : Nat) (v14 : Bool) : Option Bool :=
 (bif (!decide (p0.From = (⟨#[]⟩ : ByteArray))) then ((Du n p0.From).bind fun v15 => (bif (!v15) then some false else (bif (decide ((0 : Int) < (p0.Params.length : Int))) then some false else (GF p0 n v14)))) else (GF p0 n v14))
def G7 (p0 : TP) (v2 : Int) (q0 : Bool → Int → Option Bool) (v10 : Bool) (q1 : Int → Option Bool) (v11 : Int) : Option Bool :=
 (bif (decide (v11 < v2)) then ((Dd p0.Params v11).bind fun v12 => ((Dd p0.Params v2).bind fun v13 => (bif (decide (v12.Name = v13.Name)) then some false else q1 (IntKind.wrap .i64 (v11 + (1 : Int)))))) else q0 v10 (IntKind.wrap .i64 (v2 + (1 : Int))))
def Cq (p0 : TP) (v2 : Int) (q0 : Bool → Int → Option Bool) (v10 : Bool) : Nat → Int → Option Bool
 | 0, _ => none
 | m + 1, v11 => G7 p0 v2 q0 v10 (Cq p0 v2 q0 v10 m) v11
def GR (p0 : TP) (n : Nat) (v2 : Int) (q0 : Bool → Int → Option Bool) (v10 : Bool) : Option Bool :=
 (Cq p0 v2 q0 v10 n (0 : Int))
def GH (p0 : TP) (n : Nat) (v1 : Bool) (v2 : Int) (q0 : Bool → Int → Option Bool) (v8 : Bool) : Option Bool :=
 (bif v8 then some false else (bif v1 then (GR p0 n v2 q0 true) else ((Dd p0.Params v2).bind fun v9 => (GR p0 n v2 q0 (decide (p0.At = v9.Name))))))
def GV (p0 : TP) (n : Nat) (v1 : Bool) (v2 : Int) (q0 : Bool → Int → Option Bool) (v6 : Bool) : Option Bool :=
 (bif v6 then (GH p0 n v1 v2 q0 true) else ((Dd p0.Params v2).bind fun v7 => (GH p0 n v1 v2 q0 (decide ((3 : Int) < v7.Kind)))))
def Hc (p0 : TP) (n : Nat) (q0 : Bool → Int → Option Bool) (v1 : Bool) (v2 : Int) : Option Bool :=
 (bif (decide (v2 < (p0.Params.length : Int))) then ((Dd p0.Params v2).bind fun v3 => ((Du n v3.Name).bind fun v4 => (bif (!v4) then (GV p0 n v1 v2 q0 true) else ((Dd p0.Params v2).bind fun v5 => (GV p0 n v1 v2 q0 (decide (v5.Kind < (1 : Int)))))))) else (GN p0 n v1))
def CC (p0 : TP) (n : Nat) : Nat → Bool → Int → Option Bool
 | 0, _, _ => none
 | m + 1, v1, v2 => Hc p0 n (CC p0 n m) v1 v2
def JB (n : Nat) (p0 : TP) : Option Bool :=
 (CC p0 n n (decide (p0.At = (⟨#[]⟩ : ByteArray))) (0 : Int))
set_option maxRecDepth 100000 in
set_option maxHeartbeats 4000000 in
theorem AP0 (n : Nat) (p0 : TP) {r : Bool} (hr : JB n p0 = some r) {K : PV → List Content → Prop} (h : K (.d (.bool r)) st) : Av PR Aa6 [(.agg [(.d (.str p0.Name)), (.d (.str p0.From)), (.d (.str p0.At)), (.d (.int .i64 p0.Fuel)), (.d (.sl (List.map T_api_Column.row p0.Params))), (.d (.sl (List.map TS.row p0.Body)))])] st K := by
 refine Av.of AQ9 (Nat.le_of_ble_eq_true rfl) fun hwf => ?_
 rw [B5]
 refine AQ ?_
 unfold Aw4
 rw [JB] at hr
 refine Al (Af ?_)
 unfold WV
 refine Gq (k := 0) rfl rfl (e_t eh) Bf (by exact rfl) ?_
 refine Ab e_c (Aa (Ae (Al (Af ?_))))
 unfold Ya
 refine AB (e_t (em rfl eh)) (by exact rfl) ?_
 refine Ap (e_t eh) ((Am rfl 0).trans rfl) (by exact rfl) ?_
 refine As (e_t eh) e_c (Dg ?_)
 refine Ab (e_t eh) (Aa (Ae ?_))
 refine By (fun f st' => ∃ (v14 : Bool), GN p0 n v14 = some r ∧ f 1 = (.ptr (st.length + 0) 0) ∧ f 3 = (.d (.bool v14)) ∧ st' = st ++ [(.box [(.d (.str p0.Name)), (.d (.str p0.From)), (.d (.str p0.At)), (.d (.int .i64 p0.Fuel)), (.d (.sl (List.map T_api_Column.row p0.Params))), (.d (.sl (List.map TS.row p0.Body)))])]) ?_ ?_
 rotate_left
 · rintro f st' ⟨v14, hr, h1, h3, rfl⟩
   rw [GN] at hr
   refine By (fun f st' => GF p0 n v14 = some r ∧ f 1 = (.ptr (st.length + 0) 0) ∧ f 3 = (.d (.bool v14)) ∧ st' = st ++ [(.box [(.d (.str p0.Name)), (.d (.str p0.From)), (.d (.str p0.At)), (.d (.int .i64 p0.Fuel)), (.d (.sl (List.map T_api_Column.row p0.Params))), (.d (.sl (List.map TS.row p0.Body)))])]) ?_ ?_
   · refine Al (Af ?_)
     unfold Tg
     refine AB (e_t h1) (by exact rfl) ?_
     refine Ap (e_t eh) ((Am rfl 0).trans rfl) (by exact rfl) ?_
     refine As (e_t eh) e_c (MD ?_)
     refine Ab (e_t eh) ?_
     refine Au eh hr (fun hr => ?_) (fun hr => ?_)
     rotate_left
     · refine Ag eh (Ag (em rfl eh) (Ag (Ac rfl eh) (Ag (Ac rfl (em rfl eh)) (Ag (Ad rfl eh) ?_))))
       refine A4 eh ?_
       refine A4 (em rfl eh) ?_
       refine A4 (Ac rfl eh) ?_
       refine A4 (Ac rfl (em rfl eh)) ?_
       refine Ag (Ak rfl (em rfl eh)) (Ao (e_t (Ak rfl (Ac rfl eh))) e_c (Aa (Ae ?_)))
       refine EZ (e_t eh) ?_
       refine AO (Ae ?_)
       exact ⟨hr, (Ak rfl (Ad rfl (Ad rfl h1))), (Ak rfl (Ad rfl (Ad rfl h3))), rfl⟩
     refine Ai eh ?_
     refine AB (e_t (Ad rfl (em rfl h1))) (by exact rfl) ?_
     refine Ai (em rfl eh) ?_
     refine Ap (e_t eh) ((Am rfl 0).trans rfl) (by exact rfl) ?_
     refine Ai (Ac rfl eh) ?_
     obtain ⟨v15, hc_v15, hr⟩ := bind_some hr
     refine AJ (Ar (e_t eh) AF AM) ?_
     refine Ko n p0.From hc_v15 ?_
     refine Ai (Ac rfl (em rfl eh)) (C2 (e_t eh) (Ai (Ad rfl eh) (Ab (e_t eh) ?_)))
     refine Au eh hr (fun hr => ?_) (fun hr => ?_)
     · refine Ag eh (Ag (em rfl eh) (Ag (Ac rfl eh) (Ag (Ac rfl (em rfl eh)) (Ai (Ak rfl (Ac rfl eh)) (An (e_t (Ad rfl eh)) e_c ?_)))))
       refine An (e_t (Ak rfl (Ac rfl (em rfl eh)))) (e_t eh) (Aa (Ae ?_))
       refine Dy (e_t eh) ?_
       refine Al (Af ?_)
       unfold O1
       refine Ab e_c (Aa (Ae (AI (AA ?_))))
       cases hr
       exact A7 (AG eh AH) (AN AF v_d) (Ay hwf) h
     refine Ai eh ?_
     refine AB (e_t (Ak rfl (Ac rfl (em rfl h1)))) (by exact rfl) ?_
     refine Ai (em rfl eh) ?_
     refine Ap (e_t eh) ((Am rfl 0).trans rfl) (by exact rfl) ?_
     refine Ai (Ac rfl eh) ?_
     refine Bh (row := T_api_Column.row) (AP (e_t eh) Bt) ?_
     refine Ai (Ac rfl (em rfl eh)) ?_
     refine As (e_t eh) e_c (C8 ?_)
     refine Ai (Ak rfl (Ac rfl eh)) (Ao (e_t (Ad rfl eh)) (e_t eh) (An (e_t (Ak rfl (Ac rfl (em rfl eh)))) (e_t eh) (Aa (Ae ?_))))
     refine AC (e_t eh) hr (fun hr => ?_) (fun hr => ?_)
     rotate_left
     · refine AO (Ae ?_)
       exact ⟨hr, (Aj rfl (em rfl h1)), (Aj rfl (em rfl h3)), rfl⟩
     refine Al (Af ?_)
     unfold O1
     refine Ab e_c (Aa (Ae (AI (AA ?_))))
     cases hr
     exact A7 (AG eh AH) (AN AF v_d) (Ay hwf) h
   rintro f st' ⟨hr, h1, h3, rfl⟩
   rw [GF] at hr
   refine Al (Af ?_)
   unfold Vk
   refine A1 (fun f st' => ∃ (v17 : Bool), GG p0 v14 v17 = some r ∧ f 1 = (.ptr (st.length + 0) 0) ∧ f 3 = (.d (.bool v14)) ∧ f 95 = (.d (.bool v17)) ∧ st' = st ++ [(.box [(.d (.str p0.Name)), (.d (.str p0.From)), (.d (.str p0.At)), (.d (.int .i64 p0.Fuel)), (.d (.sl (List.map T_api_Column.row p0.Params))), (.d (.sl (List.map TS.row p0.Body)))])]) ?_ ?_
   · unfold Ry
     refine AB (e_t h1) (by exact rfl) ?_
     refine Ap (e_t eh) ((Am rfl 0).trans rfl) (by exact rfl) ?_
     obtain ⟨v16, hc_v16, hr⟩ := bind_some hr
     refine AJ (Ar (e_t eh) AF AM) ?_
     refine Ko n p0.Name hc_v16 ?_
     refine Ab (e_t eh) ?_
     refine Au eh hr (fun hr => ?_) (fun hr => ?_)
     rotate_left
     · refine Ag eh (Ag (em rfl eh) (Ag (Ac rfl eh) (Ag (Ac rfl (em rfl eh)) (Ao (e_t (Ad rfl eh)) e_c (Aa ?_)))))
       exact ⟨false, hr, (Ak rfl (Ac rfl h1)), (Ak rfl (Ac rfl h3)), eh, rfl⟩
     refine Ai eh ?_
     refine AB (e_t (Ad rfl (em rfl h1))) (by exact rfl) ?_
     refine Ai (em rfl eh) ?_
     refine Ap (e_t eh) ((Am rfl 0).trans rfl) (by exact rfl) ?_
     refine Ai (Ac rfl eh) ?_
     refine Bh (row := T_api_Column.row) (AP (e_t eh) Bt) ?_
     refine Ai (Ac rfl (em rfl eh)) ?_
     refine As (e_t eh) e_c (JI ?_)
     refine An (e_t (Ad rfl eh)) (e_t eh) (Aa ?_)
     exact ⟨(decide ((p0.Params.length : Int) ≤ (8 : Int))), hr, (Ak rfl (Ac rfl h1)), (Ak rfl (Ac rfl h3)), eh, rfl⟩
   rintro f st' ⟨v17, hr, h1, h3, h95, rfl⟩
   rw [GG] at hr
   refine A1 (fun f st' => ∃ (v18 : Bool), GM p0 v18 = some r ∧ f 1 = (.ptr (st.length + 0) 0) ∧ f 98 = (.d (.bool v18)) ∧ st' = st ++ [(.box [(.d (.str p0.Name)), (.d (.str p0.From)), (.d (.str p0.At)), (.d (.int .i64 p0.Fuel)), (.d (.sl (List.map T_api_Column.row p0.Params))), (.d (.sl (List.map TS.row p0.Body)))])]) ?_ ?_
   · unfold Qs
     refine Ab (e_t h95) ?_
     refine Au eh hr (fun hr => ?_) (fun hr => ?_)
     rotate_left
     · refine Ag eh (Ao (e_t (em rfl eh)) e_c (Aa ?_))
       exact ⟨false, hr, (Ad rfl h1), eh, rfl⟩
     refine Ai eh (Ab (e_t (Ac rfl h3)) (An (e_t (em rfl eh)) (e_t eh) (Aa ?_)))
     exact ⟨v14, hr, (Ad rfl h1), eh, rfl⟩
   rintro f st' ⟨v18, hr, h1, h98, rfl⟩
   rw [GM] at hr
   refine Bn ?_
   unfold Qx
   refine Ab (e_t h98) ?_
   refine Au eh hr (fun hr => ?_) (fun hr => ?_)
   rotate_left
   · refine Ag eh (Ag (em rfl eh) (Ag (Ac rfl eh) (Ao (e_t (Ac rfl (em rfl eh))) e_c (Aa ?_))))
     refine Bn ?_
     unfold Mw
     refine Ab (e_t eh) (Ag eh (Ag (em rfl eh) (Ag (Ac rfl eh) (Ao (e_t (Ac rfl (em rfl eh))) e_c (Aa ?_)))))
     unfold Ju
     refine Ab (e_t eh) (Aa (Ae (AI ?_)))
     cases hr
     exact A7 (AG eh AH) (AN AF v_d) (Ay hwf) h
   refine Ai eh ?_
   refine AB (e_t (Ac rfl h1)) (by exact rfl) ?_
   refine Ai (em rfl eh) ?_
   refine Ap (e_t eh) ((Am rfl 0).trans rfl) (by exact rfl) ?_
   refine Ai (Ac rfl eh) ?_
   refine As (e_t eh) e_c (Ei ?_)
   refine An (e_t (Ac rfl (em rfl eh))) (e_t eh) (Aa ?_)
   refine Bn ?_
   unfold Mw
   refine Ab (e_t eh) ?_
   refine Au eh hr (fun hr => ?_) (fun hr => ?_)
   rotate_left
   · refine Ag eh (Ag (em rfl eh) (Ag (Ac rfl eh) (Ao (e_t (Ac rfl (em rfl eh))) e_c (Aa ?_))))
     unfold Ju
     refine Ab (e_t eh) (Aa (Ae (AI ?_)))
     cases hr
     exact A7 (AG eh AH) (AN AF v_d) (Ay hwf) h
   refine Ai eh ?_
   refine AB (e_t (Ad rfl (Ad rfl h1))) (by exact rfl) ?_
   refine Ai (em rfl eh) ?_
   refine Ap (e_t eh) ((Am rfl 0).trans rfl) (by exact rfl) ?_
   refine Ai (Ac rfl eh) ?_
   refine As (e_t eh) e_c (JI ?_)
   refine An (e_t (Ac rfl (em rfl eh))) (e_t eh) (Aa ?_)
   unfold Ju
   refine Ab (e_t eh) (Aa (Ae (AI ?_)))
   cases hr
   exact A7 (AG eh AH) (AN AF v_d) (Ay hwf) h
 refine Al (Af ?_)
 unfold Xl
 refine Ab e_c (Aa (Ae ?_))
 refine AT ?_
 refine BX (fun m f st' => ∃ (v1 : Bool), ∃ (v2 : Int), CC p0 n m v1 v2 = some r ∧ f 1 = (.ptr (st.length + 0) 0) ∧ f 3 = (.d (.bool v1)) ∧ f 4 = (.d (.int .i64 v2)) ∧ st' = st ++ [(.box [(.d (.str p0.Name)), (.d (.str p0.From)), (.d (.str p0.At)), (.d (.int .i64 p0.Fuel)), (.d (.sl (List.map T_api_Column.row p0.Params))), (.d (.sl (List.map TS.row p0.Body)))])]) n (Ghost.refl _) ⟨(decide (p0.At = (⟨#[]⟩ : ByteArray))), (0 : Int), hr, (Ad rfl (Ac rfl eh)), (em rfl eh), eh, rfl⟩ ?_
 rintro m f st' ⟨v1, v2, hr, h1, h3, h4, rfl⟩
 cases m with
 | zero => cases hr
 | succ m_0 =>
   rw [CC] at hr
   generalize hrec_0 : CC p0 n m_0 = q0 at hr
   rw [Hc] at hr
   unfold UG
   refine Al (Al (Af ?_))
   unfold Wx
   refine Ab (e_t h4) ?_
   refine AB (e_t (em rfl h1)) (by exact rfl) ?_
   refine Ap (e_t eh) ((Am rfl 0).trans rfl) (by exact rfl) ?_
   refine Bh (row := T_api_Column.row) (AP (e_t eh) Bt) ?_
   refine As (e_t (Ac rfl (em rfl eh))) (e_t eh) (CM ?_)
   refine Aa (Ae ?_)
   refine AC (e_t eh) hr (fun hr => ?_) (fun hr => ?_)
   rotate_left
   · refine CG ?_
     refine AW ?_
     refine AW ?_
     refine DF ?_
     refine Ae ?_
     exact ⟨v1, hr, (Ad rfl (em rfl h1)), (Ad rfl (em rfl h3)), rfl⟩
   refine AO (Ae (Al ?_))
   refine AT ?_
   refine Al ?_
   refine By (fun f st' => ∃ (v8 : Bool), GH p0 n v1 v2 q0 v8 = some r ∧ f 1 = (.ptr (st.length + 0) 0) ∧ f 3 = (.d (.bool v1)) ∧ f 4 = (.d (.int .i64 v2)) ∧ f 41 = (.d (.bool v8)) ∧ st' = st ++ [(.box [(.d (.str p0.Name)), (.d (.str p0.From)), (.d (.str p0.At)), (.d (.int .i64 p0.Fuel)), (.d (.sl (List.map T_api_Column.row p0.Params))), (.d (.sl (List.map TS.row p0.Body)))])]) ?_ ?_
   · refine Af ?_
     unfold W0
     refine A1 (fun f st' => ∃ (v6 : Bool), GV p0 n v1 v2 q0 v6 = some r ∧ f 1 = (.ptr (st.length + 0) 0) ∧ f 3 = (.d (.bool v1)) ∧ f 4 = (.d (.int .i64 v2)) ∧ f 32 = (.d (.bool v6)) ∧ st' = st ++ [(.box [(.d (.str p0.Name)), (.d (.str p0.From)), (.d (.str p0.At)), (.d (.int .i64 p0.Fuel)), (.d (.sl (List.map T_api_Column.row p0.Params))), (.d (.sl (List.map TS.row p0.Body)))])]) ?_ ?_
     rotate_left
     · rintro f st' ⟨v6, hr, h1, h3, h4, h32, rfl⟩
       rw [GV] at hr
       unfold SK
       refine Ab (e_t h32) ?_
       refine Au eh hr (fun hr => ?_) (fun hr => ?_)
       · refine Ag eh (Ag (em rfl eh) (Ag (Ac rfl eh) (Ag (Ac rfl (em rfl eh)) (Ag (Ad rfl eh) (Ag (Ad rfl (em rfl eh)) ?_)))))
         refine Ag (Ad rfl (Ac rfl eh)) (An (e_t (Ad rfl (Ac rfl (em rfl eh)))) e_c (Aa (Ae ?_)))
         exact ⟨true, hr, (Ak rfl (Ac rfl h1)), (Ak rfl (Ac rfl h3)), (Ak rfl (Ac rfl h4)), eh, rfl⟩
       refine Ai eh ?_
       refine AB (e_t (Ac rfl h1)) (by exact rfl) ?_
       refine Ai (em rfl eh) ?_
       refine Ap (e_t eh) ((Am rfl 0).trans rfl) (by exact rfl) ?_
       refine Ai (Ac rfl eh) (Ab (e_t (Ad rfl h4)) (Ai (Ac rfl (em rfl eh)) ?_))
       refine Br (row := T_api_Column.row) (AP (e_t (em rfl eh)) Bt) (e_t eh) hr T_api_Column.row_eq (fun _ => rfl) (fun v7 hr => ?_)
       refine Ai (Ad rfl eh) ?_
       refine MA (e_t eh) (by exact rfl) ?_
       refine Ai (Ad rfl (em rfl eh)) ?_
       refine BI (e_t eh) (by exact rfl) ?_
       refine Ai (Ad rfl (Ac rfl eh)) ?_
       refine As (e_t eh) e_c (C8 ?_)
       refine Ao (e_t (Ad rfl (Ac rfl (em rfl eh)))) (e_t eh) (Aa (Ae ?_))
       exact ⟨(decide ((3 : Int) < v7.Kind)), hr, (Ak rfl (Ac rfl h1)), (Ak rfl (Ac rfl h3)), (Ak rfl (Ac rfl h4)), eh, rfl⟩
     unfold R9
     refine AB (e_t (Ad rfl (em rfl h1))) (by exact rfl) ?_
     refine Ap (e_t eh) ((Am rfl 0).trans rfl) (by exact rfl) ?_
     refine Ab (e_t (Ad rfl (Ac rfl (em rfl h4)))) ?_
     refine Br (row := T_api_Column.row) (AP (e_t (em rfl eh)) Bt) (e_t eh) hr T_api_Column.row_eq (fun _ => rfl) (fun v3 hr => ?_)
     refine MA (e_t eh) (by exact rfl) ?_
     refine BI (e_t eh) (by exact rfl) ?_
     obtain ⟨v4, hc_v4, hr⟩ := bind_some hr
     refine AJ (Ar (e_t eh) AF AM) ?_
     refine Ko n v3.Name hc_v4 ?_
     refine C2 (e_t eh) (Ab (e_t eh) ?_)
     refine Au eh hr (fun hr => ?_) (fun hr => ?_)
     · refine Ag eh (Ag (em rfl eh) (Ag (Ac rfl eh) (Ag (Ac rfl (em rfl eh)) (Ag (Ad rfl eh) (Ag (Ad rfl (em rfl eh)) ?_)))))
       refine Ag (Ad rfl (Ac rfl eh)) (An (e_t (Ad rfl (Ac rfl (em rfl eh)))) e_c (Aa ?_))
       exact ⟨true, hr, (Aj rfl (Ad rfl (Ac rfl (em rfl h1)))), (Aj rfl (Ad rfl (Ac rfl (em rfl h3)))), (Aj rfl (Ad rfl (Ac rfl (em rfl h4)))), eh, rfl⟩
     refine Ai eh ?_
     refine AB (e_t (Ak rfl (Ad rfl (Ac rfl (em rfl h1))))) (by exact rfl) ?_
     refine Ai (em rfl eh) ?_
     refine Ap (e_t eh) ((Am rfl 0).trans rfl) (by exact rfl) ?_
     refine Ai (Ac rfl eh) (Ab (e_t (Aj rfl (em rfl h4))) (Ai (Ac rfl (em rfl eh)) ?_))
     refine Br (row := T_api_Column.row) (AP (e_t (em rfl eh)) Bt) (e_t eh) hr T_api_Column.row_eq (fun _ => rfl) (fun v5 hr => ?_)
     refine Ai (Ad rfl eh) ?_
     refine MA (e_t eh) (by exact rfl) ?_
     refine Ai (Ad rfl (em rfl eh)) ?_
     refine BI (e_t eh) (by exact rfl) ?_
     refine Ai (Ad rfl (Ac rfl eh)) ?_
     refine As (e_t eh) e_c (CM ?_)
     refine Ao (e_t (Ad rfl (Ac rfl (em rfl eh)))) (e_t eh) (Aa ?_)
     exact ⟨(decide (v5.Kind < (1 : Int))), hr, (Aj rfl (Ad rfl (Ac rfl (em rfl h1)))), (Aj rfl (Ad rfl (Ac rfl (em rfl h3)))), (Aj rfl (Ad rfl (Ac rfl (em rfl h4)))), eh, rfl⟩
   rintro f st' ⟨v8, hr, h1, h3, h4, h41, rfl⟩
   rw [GH] at hr
   refine AC (e_t h41) hr (fun hr => ?_) (fun hr => ?_)
   · refine Al (Af ?_)
     unfold Wz
     refine Ab e_c (Aa (Ae (AI (AA ?_))))
     refine BH ?_
     refine AA (AA ?_)
     refine BH ?_
     refine AA ?_
     cases hr
     exact A7 (AG eh AH) (AN AF v_d) (Ay hwf) h
   refine AO (Ae ?_)
   refine By (fun f st' => ∃ (v10 : Bool), GR p0 n v2 q0 v10 = some r ∧ f 1 = (.ptr (st.length + 0) 0) ∧ f 3 = (.d (.bool v10)) ∧ f 4 = (.d (.int .i64 v2)) ∧ st' = st ++ [(.box [(.d (.str p0.Name)), (.d (.str p0.From)), (.d (.str p0.At)), (.d (.int .i64 p0.Fuel)), (.d (.sl (List.map T_api_Column.row p0.Params))), (.d (.sl (List.map TS.row p0.Body)))])]) ?_ ?_
   · refine DP (k := 1) rfl rfl ?_
     unfold WH
     refine Bn ?_
     unfold Sp
     refine Ab (e_t h3) (Ab (e_t eh) ?_)
     refine Au eh hr (fun hr => ?_) (fun hr => ?_)
     · refine Ag eh (Ag (em rfl eh) (Ag (Ac rfl eh) (Ag (Ac rfl (em rfl eh)) (Ag (Ad rfl eh) (Ag (Ad rfl (em rfl eh)) ?_)))))
       refine Ag (Ad rfl (Ac rfl eh)) (Ag (Ad rfl (Ac rfl (em rfl eh))) (Ag (Ad rfl (Ad rfl eh)) (An (e_t (Ak rfl (em rfl eh))) e_c (Aa ?_))))
       unfold ND
       refine Ab (e_t eh) (Aa (Ae ?_))
       exact ⟨true, hr, (Ak rfl (Ad rfl (Ac rfl h1))), eh, (Ak rfl (Ad rfl (Ac rfl h4))), rfl⟩
     refine Ai eh ?_
     refine AB (e_t (Ac rfl (em rfl h1))) (by exact rfl) ?_
     refine Ai (em rfl eh) ?_
     refine Ap (e_t eh) ((Am rfl 0).trans rfl) (by exact rfl) ?_
     refine Ai (Ac rfl eh) ?_
     refine AB (e_t (Ad rfl (em rfl h1))) (by exact rfl) ?_
     refine Ai (Ac rfl (em rfl eh)) ?_
     refine Ap (e_t eh) ((Am rfl 0).trans rfl) (by exact rfl) ?_
     refine Ai (Ad rfl eh) (Ab (e_t (Ad rfl (Ac rfl (em rfl h4)))) (Ai (Ad rfl (em rfl eh)) ?_))
     refine Br (row := T_api_Column.row) (AP (e_t (em rfl eh)) Bt) (e_t eh) hr T_api_Column.row_eq (fun _ => rfl) (fun v9 hr => ?_)
     refine Ai (Ad rfl (Ac rfl eh)) ?_
     refine MA (e_t eh) (by exact rfl) ?_
     refine Ai (Ad rfl (Ac rfl (em rfl eh))) ?_
     refine BI (e_t eh) (by exact rfl) ?_
     refine Ai (Ad rfl (Ad rfl eh)) ?_
     refine As (e_t (Ad rfl (Ac rfl eh))) (e_t eh) (Dg ?_)
     refine Ao (e_t (Ak rfl (em rfl eh))) (e_t eh) (Aa ?_)
     unfold ND
     refine Ab (e_t eh) (Aa (Ae ?_))
     exact ⟨(decide (p0.At = v9.Name)), hr, (Ak rfl (Ad rfl (Ac rfl h1))), eh, (Ak rfl (Ad rfl (Ac rfl h4))), rfl⟩
   rintro f st' ⟨v10, hr, h1, h3, h4, rfl⟩
   rw [GR] at hr
   refine Al (Af ?_)
   unfold X4
   refine Ab e_c (Aa (Ae ?_))
   refine AT ?_
   refine BX (fun m f st' => ∃ (v11 : Int), Cq p0 v2 q0 v10 m v11 = some r ∧ f 1 = (.ptr (st.length + 0) 0) ∧ f 3 = (.d (.bool v10)) ∧ f 4 = (.d (.int .i64 v2)) ∧ f 5 = (.d (.int .i64 v11)) ∧ st' = st ++ [(.box [(.d (.str p0.Name)), (.d (.str p0.From)), (.d (.str p0.At)), (.d (.int .i64 p0.Fuel)), (.d (.sl (List.map T_api_Column.row p0.Params))), (.d (.sl (List.map TS.row p0.Body)))])]) n (Ghost.refl _) ⟨(0 : Int), hr, (em rfl h1), (em rfl h3), (em rfl h4), eh, rfl⟩ ?_
   rintro m f st' ⟨v11, hr, h1, h3, h4, h5, rfl⟩
   cases m with
   | zero => cases hr
   | succ m_1 =>
     rw [Cq] at hr
     generalize hrec_1 : Cq p0 v2 q0 v10 m_1 = q1 at hr
     rw [G7] at hr
     unfold TK
     refine Al (Al (Af ?_))
     unfold W5
     refine Ab (e_t h5) (Ab (e_t (em rfl h4)) ?_)
     refine As (e_t (em rfl eh)) (e_t eh) (CM ?_)
     refine Aa (Ae ?_)
     refine AC (e_t eh) hr (fun hr => ?_) (fun hr => ?_)
     rotate_left
     · refine CG ?_
       refine AW ?_
       refine AW ?_
       refine DF ?_
       refine BB ?_
       refine Ae (Af ?_)
       unfold U8
       refine Ab (e_t (Ac rfl (em rfl h4))) ?_
       refine As (e_t eh) e_c (BU ?_)
       refine Ab (e_t eh) (Aa (Ae ?_))
       exact ⟨m_0, _, Nat.lt_succ_self m_0, Ghost.refl _, v10, (IntKind.wrap .i64 (v2 + (1 : Int))), (by rw [hrec_0]; exact hr), (Ad rfl (Ac rfl h1)), (Ad rfl (Ac rfl h3)), eh, rfl⟩
     refine AO (Ae (Al ?_))
     refine AT ?_
     refine Al ?_
     refine DP (k := 1) rfl rfl ?_
     unfold XH
     refine AB (e_t (Ac rfl (em rfl h1))) (by exact rfl) ?_
     refine Ap (e_t eh) ((Am rfl 0).trans rfl) (by exact rfl) ?_
     refine Ab (e_t (Ad rfl (em rfl h5))) ?_
     refine Br (row := T_api_Column.row) (AP (e_t (em rfl eh)) Bt) (e_t eh) hr T_api_Column.row_eq (fun _ => rfl) (fun v12 hr => ?_)
     refine MA (e_t eh) (by exact rfl) ?_
     refine BI (e_t eh) (by exact rfl) ?_
     refine AB (e_t (Ak rfl (em rfl h1))) (by exact rfl) ?_
     refine Ap (e_t eh) ((Am rfl 0).trans rfl) (by exact rfl) ?_
     refine Ab (e_t (Ak rfl (Ac rfl (em rfl h4)))) ?_
     refine Br (row := T_api_Column.row) (AP (e_t (em rfl eh)) Bt) (e_t eh) hr T_api_Column.row_eq (fun _ => rfl) (fun v13 hr => ?_)
     refine MA (e_t eh) (by exact rfl) ?_
     refine BI (e_t eh) (by exact rfl) ?_
     refine As (e_t (Ad rfl (Ac rfl eh))) (e_t eh) (Dg ?_)
     refine Aa (Ae ?_)
     refine AC (e_t eh) hr (fun hr => ?_) (fun hr => ?_)
     rotate_left
     · refine AO ?_
       refine BB ?_
       refine Ae (Af ?_)
       unfold Uc
       refine Ab (e_t (Ak rfl (Ad rfl (Ad rfl h5)))) ?_
       refine As (e_t eh) e_c (BU ?_)
       refine Ab (e_t eh) (Aa (Ae ?_))
       exact ⟨m_1, _, Nat.lt_succ_self m_1, Ghost.refl _, (IntKind.wrap .i64 (v11 + (1 : Int))), (by rw [hrec_1]; exact hr), (Aj rfl (Ac rfl (em rfl h1))), (Aj rfl (Ac rfl (em rfl h3))), (Aj rfl (Ac rfl (em rfl h4))), eh, rfl⟩
     refine Al (Af ?_)
     unfold V0
     refine Ab e_c (Aa (Ae (AI ?_)))
     refine BH ?_
     refine AA (AA ?_)
     refine BH ?_
     refine BH ?_
     refine AA (AA ?_)
     refine BH ?_
     refine AA ?_
     cases hr
     exact A7 (AG eh AH) (AN AF v_d) (Ay hwf) h
def J8 (p0 : ByteArray) (p1 : Int) (q0 : Int → Option Bool) (v2 : Int) : Option Bool :=
 (bif (decide (v2 < (p0.size : Int))) then ((Ay6 p0 v2).bind fun v3 => (bif (decide (v3 = p1)) then some true else q0 (IntKind.wrap .i64 (v2 + (1 : Int))))) else some false)
def EJ (p0 : ByteArray) (p1 : Int) : Nat → Int → Option Bool
 | 0, _ => none
 | m + 1, v2 => J8 p0 p1 (EJ p0 p1 m) v2
def F8 (n : Nat) (p0 : ByteArray) (p1 : Int) : Option Bool :=
 (EJ p0 p1 n (0 : Int))
set_option maxRecDepth 100000 in
set_option maxHeartbeats 4000000 in
theorem OG (n : Nat) (p0 : ByteArray) (p1 : Int) {r : Bool} (hr : F8 n p0 p1 = some r) {K : PV → List Content → Prop} (h : K (.d (.bool r)) st) : Av PR Sm [(.d (.str p0)), (.d (.int .u8 p1))] st K := by
 refine Av.of AZ3 (Nat.le_of_ble_eq_true rfl) fun hwf => ?_
 rw [Ed]
 refine AQ ?_
 unfold AW0
 rw [F8] at hr
 refine Al (Af ?_)
 unfold As8
 refine Ab e_c (Aa (Ae (Al (Al (Af ?_)))))
 unfold Az7
 refine Ab e_c (Aa (Ae ?_))
 refine AT ?_
 refine BX (fun m f st' => ∃ (v2 : Int), EJ p0 p1 m v2 = some r ∧ f 0 = (.d (.str p0)) ∧ f 1 = (.d (.int .u8 p1)) ∧ f 5 = (.d (.int .i64 v2)) ∧ st' = st ++ []) n (Ghost.refl _) ⟨(0 : Int), hr, (Ac rfl eh), (Ac rfl (em rfl eh)), eh, rfl⟩ ?_
 rintro m f st' ⟨v2, hr, h0, h1, h5, rfl⟩
 cases m with
 | zero => cases hr
 | succ m_0 =>
   rw [EJ] at hr
   generalize hrec_0 : EJ p0 p1 m_0 = q0 at hr
   rw [J8] at hr
   unfold As4
   refine Al (Al (Af ?_))
   unfold Aw9
   refine Ab (e_t h5) (Ab (e_t (em rfl h0)) ?_)
   refine Ij (e_t eh) ?_
   refine As (e_t (Ac rfl eh)) (e_t eh) (CM ?_)
   refine Aa (Ae ?_)
   refine AC (e_t eh) hr (fun hr => ?_) (fun hr => ?_)
   rotate_left
   · refine CG ?_
     refine AW ?_
     refine AW ?_
     refine DF ?_
     refine Ae (Al (Af ?_))
     unfold Ay1
     refine Ab e_c (Aa (Ae (AI ?_)))
     cases hr
     exact A7 (AG eh AH) (AN AF v_d) (Ay hwf) h
   refine AO (Ae (Al ?_))
   refine AT ?_
   refine Al (Af ?_)
   unfold Ay5
   refine Ab (e_t (Ad rfl h0)) (Ab (e_t (Ad rfl (em rfl h5))) ?_)
   refine Aq7 (e_t (em rfl eh)) (e_t eh) hr (fun v3 hr => ?_)
   refine Ab (e_t (Ad rfl (Ac rfl (em rfl h1)))) ?_
   refine As (e_t (em rfl eh)) (e_t eh) (BK ?_)
   refine Aa (Ae ?_)
   refine AC (e_t eh) hr (fun hr => ?_) (fun hr => ?_)
   rotate_left
   · refine AO ?_
     refine BB ?_
     refine Ae (Af ?_)
     unfold Au9
     refine Ab (e_t (Ak rfl (em rfl h5))) ?_
     refine As (e_t eh) e_c (BU ?_)
     refine Ab (e_t eh) (Aa (Ae ?_))
     exact ⟨m_0, _, Nat.lt_succ_self m_0, Ghost.refl _, (IntKind.wrap .i64 (v2 + (1 : Int))), (by rw [hrec_0]; exact hr), (Ak rfl (Ad rfl h0)), (Ak rfl (Ad rfl h1)), eh, rfl⟩
   refine Al (Af ?_)
   unfold Au6
   refine Ab e_c (Aa (Ae (AI ?_)))
   refine BH ?_
   refine AA (AA ?_)
   refine BH ?_
   refine AA ?_
   cases hr
   exact A7 (AG eh AH) (AN AF v_d) (Ay hwf) h
end Go.Ax
