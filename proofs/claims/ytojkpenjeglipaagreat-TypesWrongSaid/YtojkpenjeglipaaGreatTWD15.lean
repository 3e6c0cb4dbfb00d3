import Derived.Test.YtojkpenjeglipaaGreatTWT
import Derived.Test.YtojkpenjeglipaaGreatTCVX
import Derived.Test.YtojkpenjeglipaaGreatTCPrim
import Derived.Test.YtojkpenjeglipaaGreatTZA
import Derived.Test.YtojkpenjeglipaaGreatTWD6
import Derived.Test.YtojkpenjeglipaaGreatTWD7
import Derived.Test.YtojkpenjeglipaaGreatTWD14
set_option linter.unusedSimpArgs false
set_option linter.unusedVariables false
set_option maxRecDepth 100000
set_option maxHeartbeats 4000000
namespace Go.Ax
attribute [local irreducible] BH FA F2 Bf DM Hp Cq V4 Lz upd ev u0 Dh frz A4 EO mmD bnd Ch Gk DU C2 Ie JH FZ cutV NL CO
variable {st : List Content}
def B3 (v5 : ((List Int) × Bool)) (v7 : Bool) : Option Bool :=
 (bif v7 then (bif (!v5.2) then some (BG7) else some false) else some false)
def BK (p0 : T_api_Catalog) (n : Nat) (v2 : (TP × Int × Int × Bool × Bool)) (v4 : Bool) : Option Bool :=
 (bif v4 then some (BG7) else ((HD n p0 (⟨v2.1.Name, v2.1.From, v2.1.At, v2.1.Fuel, v2.1.Params, v2.1.Body⟩ : TP)).bind fun v5 => ((IA n p0 (⟨v2.1.Name, v2.1.From, v2.1.At, v2.1.Fuel, v2.1.Params, v2.1.Body⟩ : TP)).bind fun v6 => (bif (decide (v6 = (1 : Int))) then (B3 v5 (decide ((v5.1.length : Int) = (0 : Int)))) else (B3 v5 false)))))
def Dm (n : Nat) (p0 : T_api_Catalog) (p1 : LSay) : Option Bool :=
 ((Af9 n p1).bind fun v2 => (bif (!v2.2.2.2.2) then (BK p0 n v2 true) else (bif v2.2.2.2.1 then (BK p0 n v2 true) else ((BU n p0).bind fun v3 => (BK p0 n v2 v3)))))
theorem Ur (n : Nat) (p0 : T_api_Catalog) (p1 : LSay) {r : Bool} (hr : Dm n p0 p1 = some r) {K : PV → List Content → Prop} (h : K (.d (.bool r)) st) : Aw PR Jr [(.agg [(.d (.sl (List.map T_api_Schema.row p0.Tables))), (.d (.sl (List.map T_api_Stream.row p0.Streams))), (.d (.sl (List.map T_api_Window.row p0.Windows))), (.d (.sl (List.map T_api_Stream.row p0.Sinks))), (.d (.sl (List.map TP.row p0.Procs)))]), (.agg [(.d (.str p1.Name)), (.d (.str p1.From)), (.d (.str p1.At)), (.d (.int .i64 p1.Fuel)), (.d (.sl (List.map T_api_Column.row p1.Params))), (.d (.sl (List.map TLeaf.row p1.Leaves))), (.d (.sl (List.map TKnot.row p1.Knots))), (.d (.sl (List.map (rI .i64) p1.Body)))])] st K := by
 refine Aw.of U7 (Nat.le_of_ble_eq_true rfl) fun hwf => ?_
 rw [ED]
 refine AS ?_
 unfold Ji
 rw [Dm] at hr
 refine Al (Af ?_)
 unfold HQ
 refine GV (k := 0) rfl rfl (e_t eh) Bi (by rfl) ?_
 refine GV (k := 1) rfl rfl (e_t (Ac rfl eh)) Bi (by rfl) ?_
 refine Ab e_c (Aa (Ae (Al (Af ?_))))
 unfold HM
 refine Cn (e_t (em rfl eh)) (gx 1 rfl) (Nat.le_of_ble_eq_true rfl) (by rfl) ?_
 obtain ⟨v2, hc_v2, hr⟩ := bind_some hr
 refine AY (Az (e_t eh) (Cw (Aq f_d (Aq f_d (Aq f_d (Aq f_d (Aq f_d (Aq f_d (Aq f_d (Aq f_d Dg))))))))) A1) ?_
 refine Cj4 n p1 hc_v2 ?_
 refine Ab (e_t eh) ?_
 refine MZ (e_t eh) (by rfl) ?_
 refine MZ (e_t (em rfl eh)) (by rfl) ?_
 refine MZ (e_t (Ac rfl eh)) (by rfl) ?_
 refine MZ (e_t (Ac rfl (em rfl eh))) (by rfl) ?_
 refine MZ (e_t (Ad rfl eh)) (by rfl) ?_
 refine Dv (k := 2) rfl rfl ?_
 refine BB (e_t eh) (gx 2 rfl) (e_t (Ad rfl (em rfl eh))) Bi rfl (Nat.le_of_ble_eq_true rfl) (by rfl) (cells' := [(.d (.str v2.1.Name)), (.d (.str v2.1.From)), (.d (.str v2.1.At)), (.d (.int .i64 v2.1.Fuel)), (.d (.sl (List.map T_api_Column.row v2.1.Params))), (.d (.sl (List.map TS.row v2.1.Body)))]) (by rfl) (BD rfl _ _) ?_
 refine Ab (e_t (Ad rfl eh)) (Ab (e_t (Ad rfl eh)) (Ab (e_t (Ad rfl eh)) (Ab (e_t (Ad rfl eh)) (Aa (Ae ?_)))))
 refine Al ?_
 refine BL (fun f st' => ∃ (v4 : Bool), BK p0 n v2 v4 = some r ∧ f 2 = (.ptr (st.length + 0) 0) ∧ f 5 = (.ptr (st.length + 2) 0) ∧ f 28 = (.d (.bool v4)) ∧ st' = st ++ [(.box [(.d (.sl (List.map T_api_Schema.row p0.Tables))), (.d (.sl (List.map T_api_Stream.row p0.Streams))), (.d (.sl (List.map T_api_Window.row p0.Windows))), (.d (.sl (List.map T_api_Stream.row p0.Sinks))), (.d (.sl (List.map TP.row p0.Procs)))]), (.box [(.d (.str p1.Name)), (.d (.str p1.From)), (.d (.str p1.At)), (.d (.int .i64 p1.Fuel)), (.d (.sl (List.map T_api_Column.row p1.Params))), (.d (.sl (List.map TLeaf.row p1.Leaves))), (.d (.sl (List.map TKnot.row p1.Knots))), (.d (.sl (List.map (rI .i64) p1.Body)))]), (.box [(.d (.str v2.1.Name)), (.d (.str v2.1.From)), (.d (.str v2.1.At)), (.d (.int .i64 v2.1.Fuel)), (.d (.sl (List.map T_api_Column.row v2.1.Params))), (.d (.sl (List.map TS.row v2.1.Body)))])]) ?_ ?_
 · refine Af ?_
   unfold HO
   refine Bh ?_
   unfold GT
   refine Ab (e_t eh) (CN (e_t eh) (Ab (e_t eh) ?_))
   refine Ar eh hr (fun hr => ?_) (fun hr => ?_)
   · refine Ah eh (Am (e_t (em rfl eh)) e_c (Aa ?_))
     unfold EK
     refine Ab (e_t eh) (Ah eh (Ah (em rfl eh) (Am (e_t (Ac rfl eh)) e_c (Aa (Ae ?_)))))
     exact ⟨true, hr, (Ai rfl (Ak rfl (em rfl eh))), (Ak rfl (Ad rfl (Ac rfl eh))), eh, rfl⟩
   refine Aj eh (Ab (e_t (Ad rfl (em rfl eh))) (An (e_t (em rfl eh)) (e_t eh) (Aa ?_)))
   unfold EK
   refine Ab (e_t eh) ?_
   refine Ar eh hr (fun hr => ?_) (fun hr => ?_)
   · refine Ah eh (Ah (em rfl eh) (Am (e_t (Ac rfl eh)) e_c (Aa (Ae ?_))))
     exact ⟨true, hr, (Ai rfl (Ak rfl (Ac rfl eh))), (Ak rfl (Ad rfl (Ac rfl (em rfl eh)))), eh, rfl⟩
   refine Aj eh ?_
   refine Cn (e_t (Ai rfl (Ad rfl (Ac rfl (em rfl eh))))) (gx 0 rfl) (Nat.le_of_ble_eq_true rfl) (by rfl) ?_
   refine Aj (em rfl eh) ?_
   obtain ⟨v3, hc_v3, hr⟩ := bind_some hr
   refine AY (Az (e_t eh) (Cw (Aq f_d (Aq f_d (Aq f_d (Aq f_d (Aq f_d Dg)))))) A1) ?_
   refine An9 n p0 hc_v3 ?_
   refine An (e_t (Ac rfl eh)) (e_t eh) (Aa (Ae ?_))
   exact ⟨v3, hr, (Ai rfl (Ak rfl (Ac rfl eh))), (Ak rfl (Ad rfl (Ac rfl (em rfl eh)))), eh, rfl⟩
 rintro f st' ⟨v4, hr, h2, h5, h28, rfl⟩
 rw [BK] at hr
 refine AB (e_t h28) hr (fun hr => ?_) (fun hr => ?_)
 · refine Al (Af ?_)
   unfold HS
   refine AY A1 ?_
   refine Bz8 rfl ?_
   refine Ab (e_t eh) (Aa (Ae (AH (Ay ?_))))
   cases hr
   exact A5 (AE eh AG) (AK AF v_d) (As hwf) h
 refine AM (Ae (Al (Af ?_)))
 unfold HN
 refine Cn (e_t h2) (gx 0 rfl) (Nat.le_of_ble_eq_true rfl) (by rfl) ?_
 refine Cn (e_t (em rfl h5)) (gx 2 rfl) (Nat.le_of_ble_eq_true rfl) (by rfl) ?_
 obtain ⟨v5, hc_v5, hr⟩ := bind_some hr
 refine AY (Az (e_t (em rfl eh)) (Cw (Aq f_d (Aq f_d (Aq f_d (Aq f_d (Aq f_d Dg)))))) (Az (e_t eh) (Cw (Aq f_d (Aq f_d (Aq f_d (Aq f_d (Aq f_d (Aq f_d Dg))))))) A1)) ?_
 refine Bm9 n p0 (⟨v2.1.Name, v2.1.From, v2.1.At, v2.1.Fuel, v2.1.Params, v2.1.Body⟩ : TP) hc_v5 ?_
 refine Ab (e_t eh) ?_
 refine MZ (e_t eh) (by rfl) ?_
 refine MZ (e_t (em rfl eh)) (by rfl) ?_
 refine Ab (e_t (em rfl eh)) (Ab (e_t (em rfl eh)) (Aa (Ae (Al (Af ?_)))))
 unfold HP
 refine Ba (fun f st' => ∃ (v7 : Bool), B3 v5 v7 = some r ∧ f 11 = (.d (.bool v5.2)) ∧ f 44 = (.d (.bool v7)) ∧ st' = st ++ [(.box [(.d (.sl (List.map T_api_Schema.row p0.Tables))), (.d (.sl (List.map T_api_Stream.row p0.Streams))), (.d (.sl (List.map T_api_Window.row p0.Windows))), (.d (.sl (List.map T_api_Stream.row p0.Sinks))), (.d (.sl (List.map TP.row p0.Procs)))]), (.box [(.d (.str p1.Name)), (.d (.str p1.From)), (.d (.str p1.At)), (.d (.int .i64 p1.Fuel)), (.d (.sl (List.map T_api_Column.row p1.Params))), (.d (.sl (List.map TLeaf.row p1.Leaves))), (.d (.sl (List.map TKnot.row p1.Knots))), (.d (.sl (List.map (rI .i64) p1.Body)))]), (.box [(.d (.str v2.1.Name)), (.d (.str v2.1.From)), (.d (.str v2.1.At)), (.d (.int .i64 v2.1.Fuel)), (.d (.sl (List.map T_api_Column.row v2.1.Params))), (.d (.sl (List.map TS.row v2.1.Body)))])]) ?_ ?_
 · unfold GQ
   refine Cn (e_t (Ad rfl (Ad rfl h2))) (gx 0 rfl) (Nat.le_of_ble_eq_true rfl) (by rfl) ?_
   refine Cn (e_t (Ak rfl (em rfl h5))) (gx 2 rfl) (Nat.le_of_ble_eq_true rfl) (by rfl) ?_
   obtain ⟨v6, hc_v6, hr⟩ := bind_some hr
   refine AY (Az (e_t (em rfl eh)) (Cw (Aq f_d (Aq f_d (Aq f_d (Aq f_d (Aq f_d Dg)))))) (Az (e_t eh) (Cw (Aq f_d (Aq f_d (Aq f_d (Aq f_d (Aq f_d (Aq f_d Dg))))))) A1)) ?_
   refine Bu0 n p0 (⟨v2.1.Name, v2.1.From, v2.1.At, v2.1.Fuel, v2.1.Params, v2.1.Body⟩ : TP) hc_v6 ?_
   refine Ap (e_t eh) e_c (Ci ?_)
   refine Ab (e_t eh) ?_
   refine Ar eh hr (fun hr => ?_) (fun hr => ?_)
   rotate_left
   · refine Ah eh (Ah (em rfl eh) (Ah (Ac rfl eh) (An (e_t (Ac rfl (em rfl eh))) e_c (Aa ?_))))
     exact ⟨false, hr, (Ak rfl (Ac rfl eh)), eh, rfl⟩
   refine Aj eh (Ab (e_t (Ad rfl (Ac rfl (em rfl eh)))) (Aj (em rfl eh) ?_))
   refine Bc (row := (rI .i64)) (AN (e_t eh) Bo) ?_
   refine Aj (Ac rfl eh) ?_
   refine Ap (e_t eh) e_c (Ci ?_)
   refine Am (e_t (Ac rfl (em rfl eh))) (e_t eh) (Aa ?_)
   exact ⟨(decide ((v5.1.length : Int) = (0 : Int))), hr, (Ak rfl (Ac rfl eh)), eh, rfl⟩
 rintro f st' ⟨v7, hr, h11, h44, rfl⟩
 rw [B3] at hr
 refine Bh ?_
 unfold G0
 refine Ab (e_t h44) ?_
 refine Ar eh hr (fun hr => ?_) (fun hr => ?_)
 rotate_left
 · refine Ah eh (Ah (em rfl eh) (An (e_t (Ac rfl eh)) e_c (Aa ?_)))
   refine Bh ?_
   unfold EF
   refine Ab (e_t eh) (Ah eh (An (e_t (em rfl eh)) e_c (Aa ?_)))
   unfold Dd
   refine Ab (e_t eh) (Aa (Ae (AH ?_)))
   cases hr
   exact A5 (AE eh AG) (AK AF v_d) (As hwf) h
 refine Aj eh (Ab (e_t (Ac rfl h11)) (Aj (em rfl eh) (CN (e_t eh) (Am (e_t (Ac rfl eh)) (e_t eh) (Aa ?_)))))
 refine Bh ?_
 unfold EF
 refine Ab (e_t eh) ?_
 refine Ar eh hr (fun hr => ?_) (fun hr => ?_)
 rotate_left
 · refine Ah eh (An (e_t (em rfl eh)) e_c (Aa ?_))
   unfold Dd
   refine Ab (e_t eh) (Aa (Ae (AH ?_)))
   cases hr
   exact A5 (AE eh AG) (AK AF v_d) (As hwf) h
 refine Aj eh ?_
 refine AY A1 ?_
 refine Bz8 rfl ?_
 refine Am (e_t (em rfl eh)) (e_t eh) (Aa ?_)
 unfold Dd
 refine Ab (e_t eh) (Aa (Ae (AH ?_)))
 cases hr
 exact A5 (AE eh AG) (AK AF v_d) (As hwf) h
end Go.Ax
