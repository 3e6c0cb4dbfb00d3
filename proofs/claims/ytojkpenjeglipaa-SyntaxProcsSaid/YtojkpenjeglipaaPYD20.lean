import Derived.Test.YtojkpenjeglipaaPYT
import Derived.Test.YtojkpenjeglipaaPCVX
import Derived.Test.YtojkpenjeglipaaPCPrim
import Derived.Test.YtojkpenjeglipaaPYD1
import Derived.Test.YtojkpenjeglipaaPYD7
import Derived.Test.YtojkpenjeglipaaPYD9
import Derived.Test.YtojkpenjeglipaaPYD10
import Derived.Test.YtojkpenjeglipaaPYD17
import Derived.Test.YtojkpenjeglipaaPYD19
set_option linter.unusedVariables false
set_option linter.unusedSimpArgs false
namespace Go.Ax
attribute [local irreducible] BQ EX FK Bg CQ FI B8 Le Ii upd ev u0 Dw frz A9 EK mmD bnd B2 FD Dq CR G3 HS Hg cutV JT Cy
variable {st : List Content}
def LJ (n : Nat) (p0 : TP) : Option (List ByteArray) :=
 ((Kt n p0).bind fun v1 => ((Kg v1.2.2).bind fun v2 => some v2))
set_option maxRecDepth 100000 in
set_option maxHeartbeats 4000000 in
theorem At3 (n : Nat) (p0 : TP) {r : (List ByteArray)} (hr : LJ n p0 = some r) {K : PV → List Content → Prop} (h : K (.d (.sl (List.map rS r))) st) : Av PR Z8 [(.agg [(.d (.str p0.Name)), (.d (.str p0.From)), (.d (.str p0.At)), (.d (.int .i64 p0.Fuel)), (.d (.sl (List.map T_api_Column.row p0.Params))), (.d (.sl (List.map TS.row p0.Body)))])] st K := by
 refine Av.of AR7 (Nat.le_of_ble_eq_true rfl) fun hwf => ?_
 rw [B5]
 refine AQ ?_
 unfold At0
 rw [LJ] at hr
 refine Al (Af ?_)
 unfold Xh
 refine Gq (k := 0) rfl rfl (e_t eh) Bf (by exact rfl) ?_
 refine Ab e_c (Aa (Ae (Al (Af ?_))))
 unfold Xx
 refine Bw (e_t (em rfl eh)) ((Am rfl 0).trans rfl) (Nat.le_of_ble_eq_true rfl) (by exact rfl) ?_
 obtain ⟨v1, hc_v1, hr⟩ := bind_some hr
 refine AJ (Ar (e_t eh) (Bx (Aq f_d (Aq f_d (Aq f_d (Aq f_d (Aq f_d (Aq f_d B3))))))) AM) ?_
 refine Aq4 n p0 hc_v1 (m := st.length + 1) (by simp) (List.append_assoc _ _ _) ?_
 refine An4 (e_t eh) (by exact rfl) ?_
 refine AJ (Ar (e_t eh) AC7 AM) ?_
 refine (Aq2 (n0 := st.length) (k := 6) rfl rfl (by simp)).mono ?_
 rintro _ _ ⟨rfl, rfl⟩
 obtain ⟨v2, hc_v2, hr⟩ := bind_some hr
 refine AJ (Ar (e_t eh) K7 AM) ?_
 refine QP ((Am rfl 6).trans rfl) ((Am rfl 5).trans rfl) hc_v2 ?_
 refine Ab (e_t eh) (Aa (Ae (AI ?_)))
 cases hr
 exact A7 (AG eh AH) (AN AF v_d) (Ay hwf) h
def FS (n : Nat) (v1 : (TP × Int × Int × Bool × Bool)) (v6 : (List ByteArray)) (v15 : Bool) : Option Bool :=
 (bif v15 then ((LJ n (⟨v1.1.Name, v1.1.From, v1.1.At, v1.1.Fuel, v1.1.Params, v1.1.Body⟩ : TP)).bind fun v16 => ((H9 n v16 v6).bind fun v17 => (bif v17 then ((LN n).bind fun v18 => some v18) else some false))) else some false)
def Gc (n : Nat) (v1 : (TP × Int × Int × Bool × Bool)) (v5 : (List ByteArray)) (v6 : (List ByteArray)) (v12 : Bool) : Option Bool :=
 (bif v12 then ((I4 n (⟨v1.1.Name, v1.1.From, v1.1.At, v1.1.Fuel, v1.1.Params, v1.1.Body⟩ : TP)).bind fun v13 => ((H9 n v13 v5).bind fun v14 => (FS n v1 v6 v14))) else (FS n v1 v6 false))
def FW (n : Nat) (v1 : (TP × Int × Int × Bool × Bool)) (v4 : (List ByteArray)) (v5 : (List ByteArray)) (v6 : (List ByteArray)) (v9 : Bool) : Option Bool :=
 (bif v9 then ((KE n (⟨v1.1.Name, v1.1.From, v1.1.At, v1.1.Fuel, v1.1.Params, v1.1.Body⟩ : TP)).bind fun v10 => ((H9 n v10 v4).bind fun v11 => (Gc n v1 v5 v6 v11))) else (Gc n v1 v5 v6 false))
def F3 (n : Nat) (v1 : (TP × Int × Int × Bool × Bool)) (v4 : (List ByteArray)) (v5 : (List ByteArray)) (v6 : (List ByteArray)) (v7 : Bool) : Option Bool :=
 (bif v7 then ((Je n (⟨v1.1.Name, v1.1.From, v1.1.At, v1.1.Fuel, v1.1.Params, v1.1.Body⟩ : TP)).bind fun v8 => (FW n v1 v4 v5 v6 (v8 == v1.2.2.2.1))) else (FW n v1 v4 v5 v6 false))
def F9 (n : Nat) (v1 : (TP × Int × Int × Bool × Bool)) (v27 : Bool) : Option Bool :=
 (bif v27 then ((LJ n (⟨v1.1.Name, v1.1.From, v1.1.At, v1.1.Fuel, v1.1.Params, v1.1.Body⟩ : TP)).bind fun v28 => ((H9 n v28 ([])).bind fun v29 => (bif v29 then ((LN n).bind fun v30 => some v30) else some false))) else some false)
def F1 (n : Nat) (v1 : (TP × Int × Int × Bool × Bool)) (v24 : Bool) : Option Bool :=
 (bif v24 then ((I4 n (⟨v1.1.Name, v1.1.From, v1.1.At, v1.1.Fuel, v1.1.Params, v1.1.Body⟩ : TP)).bind fun v25 => ((H9 n v25 ([])).bind fun v26 => (F9 n v1 v26))) else (F9 n v1 false))
def FY (n : Nat) (v1 : (TP × Int × Int × Bool × Bool)) (v21 : Bool) : Option Bool :=
 (bif v21 then ((KE n (⟨v1.1.Name, v1.1.From, v1.1.At, v1.1.Fuel, v1.1.Params, v1.1.Body⟩ : TP)).bind fun v22 => ((H9 n v22 ([])).bind fun v23 => (F1 n v1 v23))) else (F1 n v1 false))
def FV (n : Nat) (v1 : (TP × Int × Int × Bool × Bool)) (v19 : Bool) : Option Bool :=
 (bif v19 then ((Je n (⟨v1.1.Name, v1.1.From, v1.1.At, v1.1.Fuel, v1.1.Params, v1.1.Body⟩ : TP)).bind fun v20 => (FY n v1 (v20 == v1.2.2.2.1))) else (FY n v1 false))
def DD (n : Nat) (p0 : LSay) : Option Bool :=
 ((Ly n p0).bind fun v1 => (bif (!v1.2.2.2.2) then ((LN n).bind fun v2 => some v2) else ((Pn n (⟨v1.1.Name, v1.1.From, v1.1.At, v1.1.Fuel, v1.1.Params, v1.1.Body⟩ : TP)).bind fun v3 => (bif v1.2.2.2.1 then ((CH n ([]) v1.1.Body (0 : Int)).bind fun v4 => ((CH n ([]) v1.1.Body (1 : Int)).bind fun v5 => ((CH n ([]) v1.1.Body (2 : Int)).bind fun v6 => (bif (decide (v3.1 = v1.2.1)) then (F3 n v1 v4 v5 v6 (decide (v3.2 = v1.2.2.1))) else (F3 n v1 v4 v5 v6 false))))) else (bif (decide (v3.1 = v1.2.1)) then (FV n v1 (decide (v3.2 = v1.2.2.1))) else (FV n v1 false))))))
set_option maxRecDepth 100000 in
set_option maxHeartbeats 4000000 in
theorem Ab6 (n : Nat) (p0 : LSay) {r : Bool} (hr : DD n p0 = some r) {K : PV → List Content → Prop} (h : K (.d (.bool r)) st) : Av PR QO [(.agg [(.d (.str p0.Name)), (.d (.str p0.From)), (.d (.str p0.At)), (.d (.int .i64 p0.Fuel)), (.d (.sl (List.map T_api_Column.row p0.Params))), (.d (.sl (List.map TLeaf.row p0.Leaves))), (.d (.sl (List.map TKnot.row p0.Knots))), (.d (.sl (List.map (rI .i64) p0.Body)))])] st K := by
 refine Av.of Aa8 (Nat.le_of_ble_eq_true rfl) fun hwf => ?_
 rw [B5]
 refine AQ ?_
 unfold QC
 rw [DD] at hr
 refine Al (Af ?_)
 unfold ME
 refine Gq (k := 0) rfl rfl (e_t eh) Bf (by exact rfl) ?_
 refine Ab e_c (Aa (Ae (Al (Af ?_))))
 unfold MQ
 refine Bw (e_t (em rfl eh)) ((Am rfl 0).trans rfl) (Nat.le_of_ble_eq_true rfl) (by exact rfl) ?_
 obtain ⟨v1, hc_v1, hr⟩ := bind_some hr
 refine AJ (Ar (e_t eh) (Bx (Aq f_d (Aq f_d (Aq f_d (Aq f_d (Aq f_d (Aq f_d (Aq f_d (Aq f_d B3))))))))) AM) ?_
 refine AY9 n p0 hc_v1 ?_
 refine Ab (e_t eh) ?_
 refine HP (e_t eh) (by exact rfl) ?_
 refine HP (e_t (em rfl eh)) (by exact rfl) ?_
 refine HP (e_t (Ac rfl eh)) (by exact rfl) ?_
 refine HP (e_t (Ac rfl (em rfl eh))) (by exact rfl) ?_
 refine HP (e_t (Ad rfl eh)) (by exact rfl) ?_
 refine Cn (k := 1) rfl rfl ?_
 refine Bl (e_t eh) ((Am rfl 1).trans rfl) (e_t (Ad rfl (em rfl eh))) Bf rfl (Nat.le_of_ble_eq_true rfl) (by exact rfl) (cells' := [(.d (.str v1.1.Name)), (.d (.str v1.1.From)), (.d (.str v1.1.At)), (.d (.int .i64 v1.1.Fuel)), (.d (.sl (List.map T_api_Column.row v1.1.Params))), (.d (.sl (List.map TS.row v1.1.Body)))]) (by exact rfl) (Bo rfl _ _) ?_
 refine Ab (e_t (Ad rfl eh)) (Ab (e_t (Ad rfl eh)) (Ab (e_t (Ad rfl eh)) (Ab (e_t (Ad rfl eh)) (Aa (Ae ?_)))))
 refine Al (Al (Af ?_))
 unfold MR
 refine Ab (e_t eh) (C2 (e_t eh) (Aa (Ae ?_)))
 refine AC (e_t eh) hr (fun hr => ?_) (fun hr => ?_)
 · refine Al (Af ?_)
   unfold Nd
   obtain ⟨v2, hc_v2, hr⟩ := bind_some hr
   refine AJ AM ?_
   refine Y9 n hc_v2 ?_
   refine Ab (e_t eh) (Aa (Ae (AI (AA ?_))))
   cases hr
   exact A7 (AG eh AH) (AN AF v_d) (Ay hwf) h
 refine AO (Ae (Al (Af ?_)))
 unfold MT
 refine Bw (e_t (Ad rfl (Ac rfl eh))) ((Am rfl 1).trans rfl) (Nat.le_of_ble_eq_true rfl) (by exact rfl) ?_
 obtain ⟨v3, hc_v3, hr⟩ := bind_some hr
 refine AJ (Ar (e_t eh) (Bx (Aq f_d (Aq f_d (Aq f_d (Aq f_d (Aq f_d (Aq f_d B3))))))) AM) ?_
 refine AG8 n (⟨v1.1.Name, v1.1.From, v1.1.At, v1.1.Fuel, v1.1.Params, v1.1.Body⟩ : TP) hc_v3 ?_
 refine Ab (e_t eh) ?_
 refine HP (e_t eh) (by exact rfl) ?_
 refine HP (e_t (em rfl eh)) (by exact rfl) ?_
 refine Ab (e_t (em rfl eh)) (Ab (e_t (em rfl eh)) (Aa (Ae (Al (Af ?_)))))
 unfold Nb
 refine Ab e_c (Ab e_c (Ab e_c (Aa (Ae (Al ?_)))))
 refine Al (Af ?_)
 unfold Nu
 refine Ab (e_t (Ak rfl (Ad rfl (em rfl eh)))) (Aa (Ae ?_))
 refine AC (e_t eh) hr (fun hr => ?_) (fun hr => ?_)
 rotate_left
 · refine AO (Ae (Al (Af ?_)))
   unfold IW
   refine A1 (fun f st' => ∃ (v19 : Bool), FV n v1 v19 = some r ∧ f 3 = (.ptr (st.length + 1) 0) ∧ f 6 = (.d (.bool v1.2.2.2.1)) ∧ f 10 = (.ex []) ∧ f 11 = (.ex []) ∧ f 12 = (.ex []) ∧ f 46 = (.d (.bool v19)) ∧ st' = st ++ [(.box [(.d (.str p0.Name)), (.d (.str p0.From)), (.d (.str p0.At)), (.d (.int .i64 p0.Fuel)), (.d (.sl (List.map T_api_Column.row p0.Params))), (.d (.sl (List.map TLeaf.row p0.Leaves))), (.d (.sl (List.map TKnot.row p0.Knots))), (.d (.sl (List.map (rI .i64) p0.Body)))]), (.box [(.d (.str v1.1.Name)), (.d (.str v1.1.From)), (.d (.str v1.1.At)), (.d (.int .i64 v1.1.Fuel)), (.d (.sl (List.map T_api_Column.row v1.1.Params))), (.d (.sl (List.map TS.row v1.1.Body)))])]) ?_ ?_
   · unfold HO
     refine Ab (e_t (Ad rfl (em rfl eh))) (Ab (e_t (Aj rfl (em rfl eh))) ?_)
     refine As (e_t (em rfl eh)) (e_t eh) (BK ?_)
     refine Ab (e_t eh) ?_
     refine Au eh hr (fun hr => ?_) (fun hr => ?_)
     rotate_left
     · refine Ag eh (Ag (em rfl eh) (Ag (Ac rfl eh) (Ao (e_t (Ac rfl (em rfl eh))) e_c (Aa ?_))))
       exact ⟨false, hr, (Aj rfl (Ak rfl (Ac rfl eh))), (Aj rfl (Ad rfl (Ac rfl (em rfl eh)))), (Ak rfl (Ad rfl eh)), (Ak rfl (Ac rfl (em rfl eh))), (Ak rfl (Ac rfl eh)), eh, rfl⟩
     refine Ai eh (Ab (e_t (Ak rfl (em rfl eh))) (Ai (em rfl eh) (Ab (e_t (Aj rfl (Ad rfl (em rfl eh)))) (Ai (Ac rfl eh) ?_))))
     refine As (e_t (em rfl eh)) (e_t eh) (BK ?_)
     refine An (e_t (Ac rfl (em rfl eh))) (e_t eh) (Aa ?_)
     exact ⟨(decide (v3.2 = v1.2.2.1)), hr, (Aj rfl (Ak rfl (Ac rfl eh))), (Aj rfl (Ad rfl (Ac rfl (em rfl eh)))), (Ak rfl (Ad rfl eh)), (Ak rfl (Ac rfl (em rfl eh))), (Ak rfl (Ac rfl eh)), eh, rfl⟩
   rintro f st' ⟨v19, hr, h3, h6, h10, h11, h12, h46, rfl⟩
   rw [FV] at hr
   refine A1 (fun f st' => ∃ (v21 : Bool), FY n v1 v21 = some r ∧ f 3 = (.ptr (st.length + 1) 0) ∧ f 10 = (.ex []) ∧ f 11 = (.ex []) ∧ f 12 = (.ex []) ∧ f 52 = (.d (.bool v21)) ∧ st' = st ++ [(.box [(.d (.str p0.Name)), (.d (.str p0.From)), (.d (.str p0.At)), (.d (.int .i64 p0.Fuel)), (.d (.sl (List.map T_api_Column.row p0.Params))), (.d (.sl (List.map TLeaf.row p0.Leaves))), (.d (.sl (List.map TKnot.row p0.Knots))), (.d (.sl (List.map (rI .i64) p0.Body)))]), (.box [(.d (.str v1.1.Name)), (.d (.str v1.1.From)), (.d (.str v1.1.At)), (.d (.int .i64 v1.1.Fuel)), (.d (.sl (List.map T_api_Column.row v1.1.Params))), (.d (.sl (List.map TS.row v1.1.Body)))])]) ?_ ?_
   · unfold HK
     refine Ab (e_t h46) ?_
     refine Au eh hr (fun hr => ?_) (fun hr => ?_)
     rotate_left
     · refine Ag eh (Ag (em rfl eh) (Ag (Ac rfl eh) (Ag (Ac rfl (em rfl eh)) (Ao (e_t (Ad rfl eh)) e_c (Aa ?_)))))
       exact ⟨false, hr, (Ad rfl (Ac rfl (em rfl h3))), (Ad rfl (Ac rfl (em rfl h10))), (Ad rfl (Ac rfl (em rfl h11))), (Ad rfl (Ac rfl (em rfl h12))), eh, rfl⟩
     refine Ai eh ?_
     refine Bw (e_t (Ac rfl h3)) ((Am rfl 1).trans rfl) (Nat.le_of_ble_eq_true rfl) (by exact rfl) ?_
     refine Ai (em rfl eh) ?_
     obtain ⟨v20, hc_v20, hr⟩ := bind_some hr
     refine AJ (Ar (e_t eh) (Bx (Aq f_d (Aq f_d (Aq f_d (Aq f_d (Aq f_d (Aq f_d B3))))))) AM) ?_
     refine Tn n (⟨v1.1.Name, v1.1.From, v1.1.At, v1.1.Fuel, v1.1.Params, v1.1.Body⟩ : TP) hc_v20 ?_
     refine Ai (Ac rfl eh) (Ab (e_t (Ad rfl h6)) (Ai (Ac rfl (em rfl eh)) ?_))
     refine Aw3 (e_t (em rfl eh)) (e_t eh) ?_
     refine An (e_t (Ad rfl eh)) (e_t eh) (Aa ?_)
     exact ⟨(v20 == v1.2.2.2.1), hr, (Ad rfl (Ac rfl (em rfl h3))), (Ad rfl (Ac rfl (em rfl h10))), (Ad rfl (Ac rfl (em rfl h11))), (Ad rfl (Ac rfl (em rfl h12))), eh, rfl⟩
   rintro f st' ⟨v21, hr, h3, h10, h11, h12, h52, rfl⟩
   rw [FY] at hr
   refine A1 (fun f st' => ∃ (v24 : Bool), F1 n v1 v24 = some r ∧ f 3 = (.ptr (st.length + 1) 0) ∧ f 11 = (.ex []) ∧ f 12 = (.ex []) ∧ f 58 = (.d (.bool v24)) ∧ st' = st ++ [(.box [(.d (.str p0.Name)), (.d (.str p0.From)), (.d (.str p0.At)), (.d (.int .i64 p0.Fuel)), (.d (.sl (List.map T_api_Column.row p0.Params))), (.d (.sl (List.map TLeaf.row p0.Leaves))), (.d (.sl (List.map TKnot.row p0.Knots))), (.d (.sl (List.map (rI .i64) p0.Body)))]), (.box [(.d (.str v1.1.Name)), (.d (.str v1.1.From)), (.d (.str v1.1.At)), (.d (.int .i64 v1.1.Fuel)), (.d (.sl (List.map T_api_Column.row v1.1.Params))), (.d (.sl (List.map TS.row v1.1.Body)))])]) ?_ ?_
   · unfold HV
     refine Ab (e_t h52) ?_
     refine Au eh hr (fun hr => ?_) (fun hr => ?_)
     rotate_left
     · refine Ag eh (Ag (em rfl eh) (Ag (Ac rfl eh) (Ag (Ac rfl (em rfl eh)) (Ao (e_t (Ad rfl eh)) e_c (Aa ?_)))))
       exact ⟨false, hr, (Ad rfl (Ac rfl (em rfl h3))), (Ad rfl (Ac rfl (em rfl h11))), (Ad rfl (Ac rfl (em rfl h12))), eh, rfl⟩
     refine Ai eh ?_
     refine Bw (e_t (Ac rfl h3)) ((Am rfl 1).trans rfl) (Nat.le_of_ble_eq_true rfl) (by exact rfl) ?_
     refine Ai (em rfl eh) ?_
     obtain ⟨v22, hc_v22, hr⟩ := bind_some hr
     refine AJ (Ar (e_t eh) (Bx (Aq f_d (Aq f_d (Aq f_d (Aq f_d (Aq f_d (Aq f_d B3))))))) AM) ?_
     refine ZE n (⟨v1.1.Name, v1.1.From, v1.1.At, v1.1.Fuel, v1.1.Params, v1.1.Body⟩ : TP) hc_v22 ?_
     refine Ai (Ac rfl eh) (Ab (e_t (Ad rfl h10)) (Ai (Ac rfl (em rfl eh)) ?_))
     obtain ⟨v23, hc_v23, hr⟩ := bind_some hr
     refine AJ (Ar (e_t (em rfl eh)) AF (Ar (e_t eh) K0 AM)) ?_
     refine MH n v22 ([]) hc_v23 ?_
     refine An (e_t (Ad rfl eh)) (e_t eh) (Aa ?_)
     exact ⟨v23, hr, (Ad rfl (Ac rfl (em rfl h3))), (Ad rfl (Ac rfl (em rfl h11))), (Ad rfl (Ac rfl (em rfl h12))), eh, rfl⟩
   rintro f st' ⟨v24, hr, h3, h11, h12, h58, rfl⟩
   rw [F1] at hr
   refine A1 (fun f st' => ∃ (v27 : Bool), F9 n v1 v27 = some r ∧ f 3 = (.ptr (st.length + 1) 0) ∧ f 12 = (.ex []) ∧ f 64 = (.d (.bool v27)) ∧ st' = st ++ [(.box [(.d (.str p0.Name)), (.d (.str p0.From)), (.d (.str p0.At)), (.d (.int .i64 p0.Fuel)), (.d (.sl (List.map T_api_Column.row p0.Params))), (.d (.sl (List.map TLeaf.row p0.Leaves))), (.d (.sl (List.map TKnot.row p0.Knots))), (.d (.sl (List.map (rI .i64) p0.Body)))]), (.box [(.d (.str v1.1.Name)), (.d (.str v1.1.From)), (.d (.str v1.1.At)), (.d (.int .i64 v1.1.Fuel)), (.d (.sl (List.map T_api_Column.row v1.1.Params))), (.d (.sl (List.map TS.row v1.1.Body)))])]) ?_ ?_
   · unfold HH
     refine Ab (e_t h58) ?_
     refine Au eh hr (fun hr => ?_) (fun hr => ?_)
     rotate_left
     · refine Ag eh (Ag (em rfl eh) (Ag (Ac rfl eh) (Ag (Ac rfl (em rfl eh)) (Ao (e_t (Ad rfl eh)) e_c (Aa ?_)))))
       exact ⟨false, hr, (Ad rfl (Ac rfl (em rfl h3))), (Ad rfl (Ac rfl (em rfl h12))), eh, rfl⟩
     refine Ai eh ?_
     refine Bw (e_t (Ac rfl h3)) ((Am rfl 1).trans rfl) (Nat.le_of_ble_eq_true rfl) (by exact rfl) ?_
     refine Ai (em rfl eh) ?_
     obtain ⟨v25, hc_v25, hr⟩ := bind_some hr
     refine AJ (Ar (e_t eh) (Bx (Aq f_d (Aq f_d (Aq f_d (Aq f_d (Aq f_d (Aq f_d B3))))))) AM) ?_
     refine Wh n (⟨v1.1.Name, v1.1.From, v1.1.At, v1.1.Fuel, v1.1.Params, v1.1.Body⟩ : TP) hc_v25 ?_
     refine Ai (Ac rfl eh) (Ab (e_t (Ad rfl h11)) (Ai (Ac rfl (em rfl eh)) ?_))
     obtain ⟨v26, hc_v26, hr⟩ := bind_some hr
     refine AJ (Ar (e_t (em rfl eh)) AF (Ar (e_t eh) K0 AM)) ?_
     refine MH n v25 ([]) hc_v26 ?_
     refine An (e_t (Ad rfl eh)) (e_t eh) (Aa ?_)
     exact ⟨v26, hr, (Ad rfl (Ac rfl (em rfl h3))), (Ad rfl (Ac rfl (em rfl h12))), eh, rfl⟩
   rintro f st' ⟨v27, hr, h3, h12, h64, rfl⟩
   rw [F9] at hr
   refine Bn ?_
   unfold HR
   refine Ab (e_t h64) ?_
   refine Au eh hr (fun hr => ?_) (fun hr => ?_)
   rotate_left
   · refine Ag eh (Ag (em rfl eh) (Ag (Ac rfl eh) (Ag (Ac rfl (em rfl eh)) (Ao (e_t (Ad rfl eh)) e_c (Aa ?_)))))
     refine Bn ?_
     unfold EI
     refine Ab (e_t eh) (Ag eh (Ao (e_t (em rfl eh)) e_c (Aa ?_)))
     unfold C0
     refine Ab (e_t eh) (Aa (Ae (AI ?_)))
     cases hr
     exact A7 (AG eh AH) (AN AF v_d) (Ay hwf) h
   refine Ai eh ?_
   refine Bw (e_t (Ac rfl h3)) ((Am rfl 1).trans rfl) (Nat.le_of_ble_eq_true rfl) (by exact rfl) ?_
   refine Ai (em rfl eh) ?_
   obtain ⟨v28, hc_v28, hr⟩ := bind_some hr
   refine AJ (Ar (e_t eh) (Bx (Aq f_d (Aq f_d (Aq f_d (Aq f_d (Aq f_d (Aq f_d B3))))))) AM) ?_
   refine At3 n (⟨v1.1.Name, v1.1.From, v1.1.At, v1.1.Fuel, v1.1.Params, v1.1.Body⟩ : TP) hc_v28 ?_
   refine Ai (Ac rfl eh) (Ab (e_t (Ad rfl h12)) (Ai (Ac rfl (em rfl eh)) ?_))
   obtain ⟨v29, hc_v29, hr⟩ := bind_some hr
   refine AJ (Ar (e_t (em rfl eh)) AF (Ar (e_t eh) K0 AM)) ?_
   refine MH n v28 ([]) hc_v29 ?_
   refine An (e_t (Ad rfl eh)) (e_t eh) (Aa ?_)
   refine Bn ?_
   unfold EI
   refine Ab (e_t eh) ?_
   refine Au eh hr (fun hr => ?_) (fun hr => ?_)
   rotate_left
   · refine Ag eh (Ao (e_t (em rfl eh)) e_c (Aa ?_))
     unfold C0
     refine Ab (e_t eh) (Aa (Ae (AI ?_)))
     cases hr
     exact A7 (AG eh AH) (AN AF v_d) (Ay hwf) h
   refine Ai eh ?_
   obtain ⟨v30, hc_v30, hr⟩ := bind_some hr
   refine AJ AM ?_
   refine Y9 n hc_v30 ?_
   refine An (e_t (em rfl eh)) (e_t eh) (Aa ?_)
   unfold C0
   refine Ab (e_t eh) (Aa (Ae (AI ?_)))
   cases hr
   exact A7 (AG eh AH) (AN AF v_d) (Ay hwf) h
 refine Al (Af ?_)
 unfold Nh
 refine AB (e_t (Aj rfl (em rfl eh))) (by exact rfl) ?_
 refine Ap (e_t eh) ((Am rfl 1).trans rfl) (by exact rfl) ?_
 obtain ⟨v4, hc_v4, hr⟩ := bind_some hr
 refine AJ (Ar e_c K0 (Ar (e_t eh) AF (Ar e_c AF AM))) ?_
 refine Aq3 n ([]) v1.1.Body (0 : Int) hc_v4 ?_
 refine Ab (e_t eh) (Aa (Ae (Al (Af ?_))))
 unfold Nm
 refine AB (e_t (Aj rfl (Ad rfl (em rfl eh)))) (by exact rfl) ?_
 refine Ap (e_t eh) ((Am rfl 1).trans rfl) (by exact rfl) ?_
 obtain ⟨v5, hc_v5, hr⟩ := bind_some hr
 refine AJ (Ar e_c K0 (Ar (e_t eh) AF (Ar e_c AF AM))) ?_
 refine Aq3 n ([]) v1.1.Body (1 : Int) hc_v5 ?_
 refine Ab (e_t eh) (Aa (Ae (Af ?_)))
 unfold Np
 refine AB (e_t (Aj rfl (Ak rfl (em rfl eh)))) (by exact rfl) ?_
 refine Ap (e_t eh) ((Am rfl 1).trans rfl) (by exact rfl) ?_
 obtain ⟨v6, hc_v6, hr⟩ := bind_some hr
 refine AJ (Ar e_c K0 (Ar (e_t eh) AF (Ar e_c AF AM))) ?_
 refine Aq3 n ([]) v1.1.Body (2 : Int) hc_v6 ?_
 refine Ab (e_t eh) (Aa (Ae (Al (Af ?_))))
 unfold IW
 refine A1 (fun f st' => ∃ (v7 : Bool), F3 n v1 v4 v5 v6 v7 = some r ∧ f 3 = (.ptr (st.length + 1) 0) ∧ f 6 = (.d (.bool v1.2.2.2.1)) ∧ f 10 = (.d (.sl (List.map rS v4))) ∧ f 11 = (.d (.sl (List.map rS v5))) ∧ f 12 = (.d (.sl (List.map rS v6))) ∧ f 46 = (.d (.bool v7)) ∧ st' = st ++ [(.box [(.d (.str p0.Name)), (.d (.str p0.From)), (.d (.str p0.At)), (.d (.int .i64 p0.Fuel)), (.d (.sl (List.map T_api_Column.row p0.Params))), (.d (.sl (List.map TLeaf.row p0.Leaves))), (.d (.sl (List.map TKnot.row p0.Knots))), (.d (.sl (List.map (rI .i64) p0.Body)))]), (.box [(.d (.str v1.1.Name)), (.d (.str v1.1.From)), (.d (.str v1.1.At)), (.d (.int .i64 v1.1.Fuel)), (.d (.sl (List.map T_api_Column.row v1.1.Params))), (.d (.sl (List.map TS.row v1.1.Body)))])]) ?_ ?_
 · unfold HO
   refine Ab (e_t (Aj rfl (em rfl eh))) (Ab (e_t (Aj rfl (Ak rfl (Ad rfl (em rfl eh))))) ?_)
   refine As (e_t (em rfl eh)) (e_t eh) (BK ?_)
   refine Ab (e_t eh) ?_
   refine Au eh hr (fun hr => ?_) (fun hr => ?_)
   rotate_left
   · refine Ag eh (Ag (em rfl eh) (Ag (Ac rfl eh) (Ao (e_t (Ac rfl (em rfl eh))) e_c (Aa ?_))))
     exact ⟨false, hr, (Aj rfl (Aj rfl (Ad rfl (Ac rfl eh)))), (Aj rfl (Aj rfl (Ac rfl (em rfl eh)))), (Aj rfl (em rfl eh)), (Ak rfl (Ad rfl (em rfl eh))), (Ak rfl (em rfl eh)), eh, rfl⟩
   refine Ai eh (Ab (e_t (Aj rfl (Ad rfl (em rfl eh)))) (Ai (em rfl eh) (Ab (e_t (Aj rfl (Aj rfl (em rfl eh)))) (Ai (Ac rfl eh) ?_))))
   refine As (e_t (em rfl eh)) (e_t eh) (BK ?_)
   refine An (e_t (Ac rfl (em rfl eh))) (e_t eh) (Aa ?_)
   exact ⟨(decide (v3.2 = v1.2.2.1)), hr, (Aj rfl (Aj rfl (Ad rfl (Ac rfl eh)))), (Aj rfl (Aj rfl (Ac rfl (em rfl eh)))), (Aj rfl (em rfl eh)), (Ak rfl (Ad rfl (em rfl eh))), (Ak rfl (em rfl eh)), eh, rfl⟩
 rintro f st' ⟨v7, hr, h3, h6, h10, h11, h12, h46, rfl⟩
 rw [F3] at hr
 refine A1 (fun f st' => ∃ (v9 : Bool), FW n v1 v4 v5 v6 v9 = some r ∧ f 3 = (.ptr (st.length + 1) 0) ∧ f 10 = (.d (.sl (List.map rS v4))) ∧ f 11 = (.d (.sl (List.map rS v5))) ∧ f 12 = (.d (.sl (List.map rS v6))) ∧ f 52 = (.d (.bool v9)) ∧ st' = st ++ [(.box [(.d (.str p0.Name)), (.d (.str p0.From)), (.d (.str p0.At)), (.d (.int .i64 p0.Fuel)), (.d (.sl (List.map T_api_Column.row p0.Params))), (.d (.sl (List.map TLeaf.row p0.Leaves))), (.d (.sl (List.map TKnot.row p0.Knots))), (.d (.sl (List.map (rI .i64) p0.Body)))]), (.box [(.d (.str v1.1.Name)), (.d (.str v1.1.From)), (.d (.str v1.1.At)), (.d (.int .i64 v1.1.Fuel)), (.d (.sl (List.map T_api_Column.row v1.1.Params))), (.d (.sl (List.map TS.row v1.1.Body)))])]) ?_ ?_
 · unfold HK
   refine Ab (e_t h46) ?_
   refine Au eh hr (fun hr => ?_) (fun hr => ?_)
   rotate_left
   · refine Ag eh (Ag (em rfl eh) (Ag (Ac rfl eh) (Ag (Ac rfl (em rfl eh)) (Ao (e_t (Ad rfl eh)) e_c (Aa ?_)))))
     exact ⟨false, hr, (Ad rfl (Ac rfl (em rfl h3))), (Ad rfl (Ac rfl (em rfl h10))), (Ad rfl (Ac rfl (em rfl h11))), (Ad rfl (Ac rfl (em rfl h12))), eh, rfl⟩
   refine Ai eh ?_
   refine Bw (e_t (Ac rfl h3)) ((Am rfl 1).trans rfl) (Nat.le_of_ble_eq_true rfl) (by exact rfl) ?_
   refine Ai (em rfl eh) ?_
   obtain ⟨v8, hc_v8, hr⟩ := bind_some hr
   refine AJ (Ar (e_t eh) (Bx (Aq f_d (Aq f_d (Aq f_d (Aq f_d (Aq f_d (Aq f_d B3))))))) AM) ?_
   refine Tn n (⟨v1.1.Name, v1.1.From, v1.1.At, v1.1.Fuel, v1.1.Params, v1.1.Body⟩ : TP) hc_v8 ?_
   refine Ai (Ac rfl eh) (Ab (e_t (Ad rfl h6)) (Ai (Ac rfl (em rfl eh)) ?_))
   refine Aw3 (e_t (em rfl eh)) (e_t eh) ?_
   refine An (e_t (Ad rfl eh)) (e_t eh) (Aa ?_)
   exact ⟨(v8 == v1.2.2.2.1), hr, (Ad rfl (Ac rfl (em rfl h3))), (Ad rfl (Ac rfl (em rfl h10))), (Ad rfl (Ac rfl (em rfl h11))), (Ad rfl (Ac rfl (em rfl h12))), eh, rfl⟩
 rintro f st' ⟨v9, hr, h3, h10, h11, h12, h52, rfl⟩
 rw [FW] at hr
 refine A1 (fun f st' => ∃ (v12 : Bool), Gc n v1 v5 v6 v12 = some r ∧ f 3 = (.ptr (st.length + 1) 0) ∧ f 11 = (.d (.sl (List.map rS v5))) ∧ f 12 = (.d (.sl (List.map rS v6))) ∧ f 58 = (.d (.bool v12)) ∧ st' = st ++ [(.box [(.d (.str p0.Name)), (.d (.str p0.From)), (.d (.str p0.At)), (.d (.int .i64 p0.Fuel)), (.d (.sl (List.map T_api_Column.row p0.Params))), (.d (.sl (List.map TLeaf.row p0.Leaves))), (.d (.sl (List.map TKnot.row p0.Knots))), (.d (.sl (List.map (rI .i64) p0.Body)))]), (.box [(.d (.str v1.1.Name)), (.d (.str v1.1.From)), (.d (.str v1.1.At)), (.d (.int .i64 v1.1.Fuel)), (.d (.sl (List.map T_api_Column.row v1.1.Params))), (.d (.sl (List.map TS.row v1.1.Body)))])]) ?_ ?_
 · unfold HV
   refine Ab (e_t h52) ?_
   refine Au eh hr (fun hr => ?_) (fun hr => ?_)
   rotate_left
   · refine Ag eh (Ag (em rfl eh) (Ag (Ac rfl eh) (Ag (Ac rfl (em rfl eh)) (Ao (e_t (Ad rfl eh)) e_c (Aa ?_)))))
     exact ⟨false, hr, (Ad rfl (Ac rfl (em rfl h3))), (Ad rfl (Ac rfl (em rfl h11))), (Ad rfl (Ac rfl (em rfl h12))), eh, rfl⟩
   refine Ai eh ?_
   refine Bw (e_t (Ac rfl h3)) ((Am rfl 1).trans rfl) (Nat.le_of_ble_eq_true rfl) (by exact rfl) ?_
   refine Ai (em rfl eh) ?_
   obtain ⟨v10, hc_v10, hr⟩ := bind_some hr
   refine AJ (Ar (e_t eh) (Bx (Aq f_d (Aq f_d (Aq f_d (Aq f_d (Aq f_d (Aq f_d B3))))))) AM) ?_
   refine ZE n (⟨v1.1.Name, v1.1.From, v1.1.At, v1.1.Fuel, v1.1.Params, v1.1.Body⟩ : TP) hc_v10 ?_
   refine Ai (Ac rfl eh) (Ab (e_t (Ad rfl h10)) (Ai (Ac rfl (em rfl eh)) ?_))
   obtain ⟨v11, hc_v11, hr⟩ := bind_some hr
   refine AJ (Ar (e_t (em rfl eh)) AF (Ar (e_t eh) AF AM)) ?_
   refine MH n v10 v4 hc_v11 ?_
   refine An (e_t (Ad rfl eh)) (e_t eh) (Aa ?_)
   exact ⟨v11, hr, (Ad rfl (Ac rfl (em rfl h3))), (Ad rfl (Ac rfl (em rfl h11))), (Ad rfl (Ac rfl (em rfl h12))), eh, rfl⟩
 rintro f st' ⟨v12, hr, h3, h11, h12, h58, rfl⟩
 rw [Gc] at hr
 refine A1 (fun f st' => ∃ (v15 : Bool), FS n v1 v6 v15 = some r ∧ f 3 = (.ptr (st.length + 1) 0) ∧ f 12 = (.d (.sl (List.map rS v6))) ∧ f 64 = (.d (.bool v15)) ∧ st' = st ++ [(.box [(.d (.str p0.Name)), (.d (.str p0.From)), (.d (.str p0.At)), (.d (.int .i64 p0.Fuel)), (.d (.sl (List.map T_api_Column.row p0.Params))), (.d (.sl (List.map TLeaf.row p0.Leaves))), (.d (.sl (List.map TKnot.row p0.Knots))), (.d (.sl (List.map (rI .i64) p0.Body)))]), (.box [(.d (.str v1.1.Name)), (.d (.str v1.1.From)), (.d (.str v1.1.At)), (.d (.int .i64 v1.1.Fuel)), (.d (.sl (List.map T_api_Column.row v1.1.Params))), (.d (.sl (List.map TS.row v1.1.Body)))])]) ?_ ?_
 · unfold HH
   refine Ab (e_t h58) ?_
   refine Au eh hr (fun hr => ?_) (fun hr => ?_)
   rotate_left
   · refine Ag eh (Ag (em rfl eh) (Ag (Ac rfl eh) (Ag (Ac rfl (em rfl eh)) (Ao (e_t (Ad rfl eh)) e_c (Aa ?_)))))
     exact ⟨false, hr, (Ad rfl (Ac rfl (em rfl h3))), (Ad rfl (Ac rfl (em rfl h12))), eh, rfl⟩
   refine Ai eh ?_
   refine Bw (e_t (Ac rfl h3)) ((Am rfl 1).trans rfl) (Nat.le_of_ble_eq_true rfl) (by exact rfl) ?_
   refine Ai (em rfl eh) ?_
   obtain ⟨v13, hc_v13, hr⟩ := bind_some hr
   refine AJ (Ar (e_t eh) (Bx (Aq f_d (Aq f_d (Aq f_d (Aq f_d (Aq f_d (Aq f_d B3))))))) AM) ?_
   refine Wh n (⟨v1.1.Name, v1.1.From, v1.1.At, v1.1.Fuel, v1.1.Params, v1.1.Body⟩ : TP) hc_v13 ?_
   refine Ai (Ac rfl eh) (Ab (e_t (Ad rfl h11)) (Ai (Ac rfl (em rfl eh)) ?_))
   obtain ⟨v14, hc_v14, hr⟩ := bind_some hr
   refine AJ (Ar (e_t (em rfl eh)) AF (Ar (e_t eh) AF AM)) ?_
   refine MH n v13 v5 hc_v14 ?_
   refine An (e_t (Ad rfl eh)) (e_t eh) (Aa ?_)
   exact ⟨v14, hr, (Ad rfl (Ac rfl (em rfl h3))), (Ad rfl (Ac rfl (em rfl h12))), eh, rfl⟩
 rintro f st' ⟨v15, hr, h3, h12, h64, rfl⟩
 rw [FS] at hr
 refine Bn ?_
 unfold HR
 refine Ab (e_t h64) ?_
 refine Au eh hr (fun hr => ?_) (fun hr => ?_)
 rotate_left
 · refine Ag eh (Ag (em rfl eh) (Ag (Ac rfl eh) (Ag (Ac rfl (em rfl eh)) (Ao (e_t (Ad rfl eh)) e_c (Aa ?_)))))
   refine Bn ?_
   unfold EI
   refine Ab (e_t eh) (Ag eh (Ao (e_t (em rfl eh)) e_c (Aa ?_)))
   unfold C0
   refine Ab (e_t eh) (Aa (Ae (AI ?_)))
   cases hr
   exact A7 (AG eh AH) (AN AF v_d) (Ay hwf) h
 refine Ai eh ?_
 refine Bw (e_t (Ac rfl h3)) ((Am rfl 1).trans rfl) (Nat.le_of_ble_eq_true rfl) (by exact rfl) ?_
 refine Ai (em rfl eh) ?_
 obtain ⟨v16, hc_v16, hr⟩ := bind_some hr
 refine AJ (Ar (e_t eh) (Bx (Aq f_d (Aq f_d (Aq f_d (Aq f_d (Aq f_d (Aq f_d B3))))))) AM) ?_
 refine At3 n (⟨v1.1.Name, v1.1.From, v1.1.At, v1.1.Fuel, v1.1.Params, v1.1.Body⟩ : TP) hc_v16 ?_
 refine Ai (Ac rfl eh) (Ab (e_t (Ad rfl h12)) (Ai (Ac rfl (em rfl eh)) ?_))
 obtain ⟨v17, hc_v17, hr⟩ := bind_some hr
 refine AJ (Ar (e_t (em rfl eh)) AF (Ar (e_t eh) AF AM)) ?_
 refine MH n v16 v6 hc_v17 ?_
 refine An (e_t (Ad rfl eh)) (e_t eh) (Aa ?_)
 refine Bn ?_
 unfold EI
 refine Ab (e_t eh) ?_
 refine Au eh hr (fun hr => ?_) (fun hr => ?_)
 rotate_left
 · refine Ag eh (Ao (e_t (em rfl eh)) e_c (Aa ?_))
   unfold C0
   refine Ab (e_t eh) (Aa (Ae (AI ?_)))
   cases hr
   exact A7 (AG eh AH) (AN AF v_d) (Ay hwf) h
 refine Ai eh ?_
 obtain ⟨v18, hc_v18, hr⟩ := bind_some hr
 refine AJ AM ?_
 refine Y9 n hc_v18 ?_
 refine An (e_t (em rfl eh)) (e_t eh) (Aa ?_)
 unfold C0
 refine Ab (e_t eh) (Aa (Ae (AI ?_)))
 cases hr
 exact A7 (AG eh AH) (AN AF v_d) (Ay hwf) h
end Go.Ax
