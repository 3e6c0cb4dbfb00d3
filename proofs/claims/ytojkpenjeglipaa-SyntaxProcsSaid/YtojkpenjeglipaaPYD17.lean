import Derived.Test.YtojkpenjeglipaaPYT
import Derived.Test.YtojkpenjeglipaaPCVX
import Derived.Test.YtojkpenjeglipaaPCPrim
import Derived.Test.YtojkpenjeglipaaPYD12
import Derived.Test.YtojkpenjeglipaaPYD13
import Derived.Test.YtojkpenjeglipaaPYD14
import Derived.Test.YtojkpenjeglipaaPYD16
set_option linter.unusedVariables false
set_option linter.unusedSimpArgs false
namespace Go.Ax
attribute [local irreducible] BQ EX FK Bg CQ FI B8 Le Ii upd ev u0 Dw frz A9 EK mmD bnd B2 FD Dq CR G3 HS Hg cutV JT Cy
variable {st : List Content}
def Iz (p0 : LSay) (n : Nat) (v6 : TTree) (v8 : (List TS)) (v9 : Int) (v10 : Int) (v11 : Int) (q0 : (List TS) → Int → Int → Int → Option (TP × Int × Int × Bool × Bool)) (v12 : Bool) : Option (TP × Int × Int × Bool × Bool) :=
 (bif v12 then ((Dd p0.Body v11).bind fun v13 => ((Aj8 (decide ((IntKind.wrap .u64 (v6.Stmts.length : Int)) ≠ 0))).bind fun _ => ((Dd v6.Stmts (IntKind.wrap .i64 ((IntKind.wrap .i64 ((v6.Stmts.length : Int) - (1 : Int))) - (IntKind.wrap .i64 (Int.tmod (IntKind.wrap .u64 v13) (IntKind.wrap .u64 (v6.Stmts.length : Int))))))).bind fun v14 => ((Ib 144 v8 ([v14])).bind fun v15 => ((Dd v6.Much (IntKind.wrap .i64 ((IntKind.wrap .i64 ((v6.Stmts.length : Int) - (1 : Int))) - (IntKind.wrap .i64 (Int.tmod (IntKind.wrap .u64 v13) (IntKind.wrap .u64 (v6.Stmts.length : Int))))))).bind fun v16 => ((Dd v6.Deep (IntKind.wrap .i64 ((IntKind.wrap .i64 ((v6.Stmts.length : Int) - (1 : Int))) - (IntKind.wrap .i64 (Int.tmod (IntKind.wrap .u64 v13) (IntKind.wrap .u64 (v6.Stmts.length : Int))))))).bind fun v17 => q0 v15 (IntKind.wrap .i64 (v9 + v16)) (max v10 v17) (IntKind.wrap .i64 (v11 + (1 : Int))))))))) else (bif (decide (((DJ v9 v10).1) ≤ (300 : Int))) then (bif (decide (((DJ v9 v10).2) ≤ (12 : Int))) then ((JB n (⟨p0.Name, p0.From, p0.At, p0.Fuel, p0.Params, v8⟩ : TP)).bind fun v18 => (bif v18 then ((B7 n v8).bind fun v19 => some ((⟨p0.Name, p0.From, p0.At, p0.Fuel, p0.Params, v8⟩ : TP), (DJ v9 v10).1, (DJ v9 v10).2, v19, true)) else some ((⟨p0.Name, p0.From, p0.At, p0.Fuel, p0.Params, v8⟩ : TP), (DJ v9 v10).1, (DJ v9 v10).2, false, true))) else some ((⟨p0.Name, p0.From, p0.At, p0.Fuel, p0.Params, v8⟩ : TP), (DJ v9 v10).1, (DJ v9 v10).2, false, true)) else some ((⟨p0.Name, p0.From, p0.At, p0.Fuel, p0.Params, v8⟩ : TP), (DJ v9 v10).1, (DJ v9 v10).2, false, true)))
def I2 (p0 : LSay) (n : Nat) (v6 : TTree) (q0 : (List TS) → Int → Int → Int → Option (TP × Int × Int × Bool × Bool)) (v8 : (List TS)) (v9 : Int) (v10 : Int) (v11 : Int) : Option (TP × Int × Int × Bool × Bool) :=
 (bif (decide (v11 < (p0.Body.length : Int))) then (Iz p0 n v6 v8 v9 v10 v11 q0 (decide ((0 : Int) < (v6.Stmts.length : Int)))) else (Iz p0 n v6 v8 v9 v10 v11 q0 false))
def Dz (p0 : LSay) (n : Nat) (v6 : TTree) : Nat → (List TS) → Int → Int → Int → Option (TP × Int × Int × Bool × Bool)
 | 0, _, _, _, _ => none
 | m + 1, v8, v9, v10, v11 => I2 p0 n v6 (Dz p0 n v6 m) v8 v9 v10 v11
def Iw (p0 : LSay) (n : Nat) (v5 : Bool) : Option (TP × Int × Int × Bool × Bool) :=
 (bif v5 then some ((⟨p0.Name, p0.From, p0.At, p0.Fuel, p0.Params, []⟩ : TP), (0 : Int), (0 : Int), false, false) else ((KF n p0.Leaves p0.Knots).bind fun v6 => (Dz p0 n v6 n ([]) (0 : Int) (0 : Int) (0 : Int))))
def F5 (p0 : LSay) (n : Nat) (v4 : Bool) : Option (TP × Int × Int × Bool × Bool) :=
 (bif v4 then (Iw p0 n true) else (bif (decide ((100 : Int) < (p0.From.size : Int))) then (Iw p0 n true) else (Iw p0 n (decide ((100 : Int) < (p0.At.size : Int))))))
def F7 (p0 : LSay) (n : Nat) (v3 : Bool) : Option (TP × Int × Int × Bool × Bool) :=
 (bif v3 then (F5 p0 n true) else (F5 p0 n (decide ((100 : Int) < (p0.Name.size : Int)))))
def FT (p0 : LSay) (n : Nat) (v2 : Bool) : Option (TP × Int × Int × Bool × Bool) :=
 (bif v2 then (F7 p0 n true) else (F7 p0 n (decide ((12 : Int) < (p0.Body.length : Int)))))
def Ly (n : Nat) (p0 : LSay) : Option (TP × Int × Int × Bool × Bool) :=
 ((Ky n p0.Leaves p0.Knots).bind fun v1 => (bif v1 then (FT p0 n true) else (FT p0 n (decide ((12 : Int) < (p0.Params.length : Int))))))
set_option maxRecDepth 100000 in
set_option maxHeartbeats 4000000 in
theorem AY9 (n : Nat) (p0 : LSay) {r : (TP × Int × Int × Bool × Bool)} (hr : Ly n p0 = some r) {K : PV → List Content → Prop} (h : K (.tup [(.agg [(.d (.str r.1.Name)), (.d (.str r.1.From)), (.d (.str r.1.At)), (.d (.int .i64 r.1.Fuel)), (.d (.sl (List.map T_api_Column.row r.1.Params))), (.d (.sl (List.map TS.row r.1.Body)))]), (.d (.int .i64 r.2.1)), (.d (.int .i64 r.2.2.1)), (.d (.bool r.2.2.2.1)), (.d (.bool r.2.2.2.2))]) st) : Av PR AL0 [(.agg [(.d (.str p0.Name)), (.d (.str p0.From)), (.d (.str p0.At)), (.d (.int .i64 p0.Fuel)), (.d (.sl (List.map T_api_Column.row p0.Params))), (.d (.sl (List.map TLeaf.row p0.Leaves))), (.d (.sl (List.map TKnot.row p0.Knots))), (.d (.sl (List.map (rI .i64) p0.Body)))])] st K := by
 refine Av.of AZ1 (Nat.le_of_ble_eq_true rfl) fun hwf => ?_
 rw [B5]
 refine AQ ?_
 unfold AV9
 rw [Ly] at hr
 refine Al (Af ?_)
 unfold Az0
 refine Gq (k := 0) rfl rfl (e_t eh) Bf (by exact rfl) ?_
 refine Cn (k := 1) rfl rfl ?_
 refine Ab e_c (Ab e_c (Ab e_c (Ab e_c (Aa (Ae ?_)))))
 refine Al (Af ?_)
 unfold Az6
 refine AB (e_t (Ad rfl (em rfl eh))) (by exact rfl) ?_
 refine Ap (e_t eh) ((Am rfl 0).trans rfl) (by exact rfl) ?_
 refine AB (e_t (Ad rfl (Ac rfl (em rfl eh)))) (by exact rfl) ?_
 refine Ap (e_t eh) ((Am rfl 0).trans rfl) (by exact rfl) ?_
 refine AB (e_t (Ak rfl (em rfl eh))) (by exact rfl) ?_
 refine Ap (e_t eh) ((Am rfl 0).trans rfl) (by exact rfl) ?_
 refine AB (e_t (Ak rfl (Ac rfl (em rfl eh)))) (by exact rfl) ?_
 refine Ap (e_t eh) ((Am rfl 0).trans rfl) (by exact rfl) ?_
 refine AB (e_t (Ak rfl (Ad rfl (em rfl eh)))) (by exact rfl) ?_
 refine Ap (e_t eh) ((Am rfl 0).trans rfl) (by exact rfl) ?_
 refine II (cs := [(.d (.str p0.Name)), (.d (.str p0.From)), (.d (.str p0.At)), (.d (.int .i64 p0.Fuel)), (.d (.sl (List.map T_api_Column.row p0.Params))), (.ex [])]) (Co (e_t (Ad rfl (Ad rfl eh))) A0 rfl (Nat.le_of_ble_eq_true rfl) (by exact rfl) (Co (e_t (Ad rfl (Ac rfl eh))) A0 rfl (Nat.le_of_ble_eq_true rfl) (by exact rfl) (Co (e_t (Ad rfl eh)) A0 rfl (Nat.le_of_ble_eq_true rfl) (by exact rfl) (Co (e_t (Ac rfl eh)) A0 rfl (Nat.le_of_ble_eq_true rfl) (by exact rfl) (Co (e_t eh) A0 rfl (Nat.le_of_ble_eq_true rfl) (by exact rfl) KW))))) (Cm (e_t (Ad rfl (Ad rfl eh))) A0 (by exact rfl) (Cm (e_t (Ad rfl (Ac rfl eh))) A0 (by exact rfl) (Cm (e_t (Ad rfl eh)) A0 (by exact rfl) (Cm (e_t (Ac rfl eh)) A0 (by exact rfl) (Cm (e_t eh) A0 (by exact rfl) KQ))))) ?_
 refine Cn (k := 2) rfl rfl ?_
 refine Bl (e_t eh) ((Am rfl 2).trans rfl) (e_t (em rfl eh)) Bf rfl (Nat.le_of_ble_eq_true rfl) (by exact rfl) (cells' := [(.d (.str p0.Name)), (.d (.str p0.From)), (.d (.str p0.At)), (.d (.int .i64 p0.Fuel)), (.d (.sl (List.map T_api_Column.row p0.Params))), (.ex [])]) (by exact rfl) (Bo rfl _ _) ?_
 refine Aa (Ae (Al ?_))
 refine By (fun f st' => ∃ (v5 : Bool), Iw p0 n v5 = some r ∧ f 1 = (.ptr (st.length + 0) 0) ∧ f 2 = (.ptr (st.length + 1) 0) ∧ f 7 = (.ptr (st.length + 2) 0) ∧ f 58 = (.d (.bool v5)) ∧ st' = st ++ [(.box [(.d (.str p0.Name)), (.d (.str p0.From)), (.d (.str p0.At)), (.d (.int .i64 p0.Fuel)), (.d (.sl (List.map T_api_Column.row p0.Params))), (.d (.sl (List.map TLeaf.row p0.Leaves))), (.d (.sl (List.map TKnot.row p0.Knots))), (.d (.sl (List.map (rI .i64) p0.Body)))]), (.box [(.d (.str (⟨#[]⟩ : ByteArray))), (.d (.str (⟨#[]⟩ : ByteArray))), (.d (.str (⟨#[]⟩ : ByteArray))), (.d (.int .i64 (0 : Int))), (.ex []), (.ex [])]), (.box [(.d (.str p0.Name)), (.d (.str p0.From)), (.d (.str p0.At)), (.d (.int .i64 p0.Fuel)), (.d (.sl (List.map T_api_Column.row p0.Params))), (.ex [])])]) ?_ ?_
 · refine Af ?_
   unfold Ax0
   refine A1 (fun f st' => ∃ (v2 : Bool), FT p0 n v2 = some r ∧ f 1 = (.ptr (st.length + 0) 0) ∧ f 2 = (.ptr (st.length + 1) 0) ∧ f 7 = (.ptr (st.length + 2) 0) ∧ f 34 = (.d (.bool v2)) ∧ st' = st ++ [(.box [(.d (.str p0.Name)), (.d (.str p0.From)), (.d (.str p0.At)), (.d (.int .i64 p0.Fuel)), (.d (.sl (List.map T_api_Column.row p0.Params))), (.d (.sl (List.map TLeaf.row p0.Leaves))), (.d (.sl (List.map TKnot.row p0.Knots))), (.d (.sl (List.map (rI .i64) p0.Body)))]), (.box [(.d (.str (⟨#[]⟩ : ByteArray))), (.d (.str (⟨#[]⟩ : ByteArray))), (.d (.str (⟨#[]⟩ : ByteArray))), (.d (.int .i64 (0 : Int))), (.ex []), (.ex [])]), (.box [(.d (.str p0.Name)), (.d (.str p0.From)), (.d (.str p0.At)), (.d (.int .i64 p0.Fuel)), (.d (.sl (List.map T_api_Column.row p0.Params))), (.ex [])])]) ?_ ?_
   · unfold YX
     refine AB (e_t (Aj rfl (em rfl eh))) (by exact rfl) ?_
     refine Ap (e_t eh) ((Am rfl 0).trans rfl) (by exact rfl) ?_
     refine AB (e_t (Aj rfl (Ac rfl (em rfl eh)))) (by exact rfl) ?_
     refine Ap (e_t eh) ((Am rfl 0).trans rfl) (by exact rfl) ?_
     obtain ⟨v1, hc_v1, hr⟩ := bind_some hr
     refine AJ (Ar (e_t (Ac rfl eh)) AF (Ar (e_t eh) AF AM)) ?_
     refine AL3 n p0.Leaves p0.Knots hc_v1 ?_
     refine Ab (e_t eh) ?_
     refine Au eh hr (fun hr => ?_) (fun hr => ?_)
     · refine Ag eh (Ag (em rfl eh) (Ag (Ac rfl eh) (Ag (Ac rfl (em rfl eh)) (An (e_t (Ad rfl eh)) e_c (Aa ?_)))))
       exact ⟨true, hr, (Aj rfl (Ak rfl (Ad rfl (em rfl eh)))), (Aj rfl (Ak rfl (Ad rfl eh))), (Ak rfl (Ad rfl eh)), eh, rfl⟩
     refine Ai eh ?_
     refine AB (e_t (Aj rfl (Ad rfl (Ad rfl eh)))) (by exact rfl) ?_
     refine Ai (em rfl eh) ?_
     refine Ap (e_t eh) ((Am rfl 0).trans rfl) (by exact rfl) ?_
     refine Ai (Ac rfl eh) ?_
     refine Bh (row := T_api_Column.row) (AP (e_t eh) Bt) ?_
     refine Ai (Ac rfl (em rfl eh)) ?_
     refine As (e_t eh) e_c (C8 ?_)
     refine Ao (e_t (Ad rfl eh)) (e_t eh) (Aa ?_)
     exact ⟨(decide ((12 : Int) < (p0.Params.length : Int))), hr, (Aj rfl (Ak rfl (Ad rfl (em rfl eh)))), (Aj rfl (Ak rfl (Ad rfl eh))), (Ak rfl (Ad rfl eh)), eh, rfl⟩
   rintro f st' ⟨v2, hr, h1, h2, h7, h34, rfl⟩
   rw [FT] at hr
   refine A1 (fun f st' => ∃ (v3 : Bool), F7 p0 n v3 = some r ∧ f 1 = (.ptr (st.length + 0) 0) ∧ f 2 = (.ptr (st.length + 1) 0) ∧ f 7 = (.ptr (st.length + 2) 0) ∧ f 40 = (.d (.bool v3)) ∧ st' = st ++ [(.box [(.d (.str p0.Name)), (.d (.str p0.From)), (.d (.str p0.At)), (.d (.int .i64 p0.Fuel)), (.d (.sl (List.map T_api_Column.row p0.Params))), (.d (.sl (List.map TLeaf.row p0.Leaves))), (.d (.sl (List.map TKnot.row p0.Knots))), (.d (.sl (List.map (rI .i64) p0.Body)))]), (.box [(.d (.str (⟨#[]⟩ : ByteArray))), (.d (.str (⟨#[]⟩ : ByteArray))), (.d (.str (⟨#[]⟩ : ByteArray))), (.d (.int .i64 (0 : Int))), (.ex []), (.ex [])]), (.box [(.d (.str p0.Name)), (.d (.str p0.From)), (.d (.str p0.At)), (.d (.int .i64 p0.Fuel)), (.d (.sl (List.map T_api_Column.row p0.Params))), (.ex [])])]) ?_ ?_
   · unfold ZL
     refine Ab (e_t h34) ?_
     refine Au eh hr (fun hr => ?_) (fun hr => ?_)
     · refine Ag eh (Ag (em rfl eh) (Ag (Ac rfl eh) (Ag (Ac rfl (em rfl eh)) (An (e_t (Ad rfl eh)) e_c (Aa ?_)))))
       exact ⟨true, hr, (Ad rfl (Ac rfl (em rfl h1))), (Ad rfl (Ac rfl (em rfl h2))), (Ad rfl (Ac rfl (em rfl h7))), eh, rfl⟩
     refine Ai eh ?_
     refine AB (e_t (Ac rfl h1)) (by exact rfl) ?_
     refine Ai (em rfl eh) ?_
     refine Ap (e_t eh) ((Am rfl 0).trans rfl) (by exact rfl) ?_
     refine Ai (Ac rfl eh) ?_
     refine Bh (row := (rI .i64)) (AP (e_t eh) Bt) ?_
     refine Ai (Ac rfl (em rfl eh)) ?_
     refine As (e_t eh) e_c (C8 ?_)
     refine Ao (e_t (Ad rfl eh)) (e_t eh) (Aa ?_)
     exact ⟨(decide ((12 : Int) < (p0.Body.length : Int))), hr, (Ad rfl (Ac rfl (em rfl h1))), (Ad rfl (Ac rfl (em rfl h2))), (Ad rfl (Ac rfl (em rfl h7))), eh, rfl⟩
   rintro f st' ⟨v3, hr, h1, h2, h7, h40, rfl⟩
   rw [F7] at hr
   refine A1 (fun f st' => ∃ (v4 : Bool), F5 p0 n v4 = some r ∧ f 1 = (.ptr (st.length + 0) 0) ∧ f 2 = (.ptr (st.length + 1) 0) ∧ f 7 = (.ptr (st.length + 2) 0) ∧ f 46 = (.d (.bool v4)) ∧ st' = st ++ [(.box [(.d (.str p0.Name)), (.d (.str p0.From)), (.d (.str p0.At)), (.d (.int .i64 p0.Fuel)), (.d (.sl (List.map T_api_Column.row p0.Params))), (.d (.sl (List.map TLeaf.row p0.Leaves))), (.d (.sl (List.map TKnot.row p0.Knots))), (.d (.sl (List.map (rI .i64) p0.Body)))]), (.box [(.d (.str (⟨#[]⟩ : ByteArray))), (.d (.str (⟨#[]⟩ : ByteArray))), (.d (.str (⟨#[]⟩ : ByteArray))), (.d (.int .i64 (0 : Int))), (.ex []), (.ex [])]), (.box [(.d (.str p0.Name)), (.d (.str p0.From)), (.d (.str p0.At)), (.d (.int .i64 p0.Fuel)), (.d (.sl (List.map T_api_Column.row p0.Params))), (.ex [])])]) ?_ ?_
   · unfold Yy
     refine Ab (e_t h40) ?_
     refine Au eh hr (fun hr => ?_) (fun hr => ?_)
     · refine Ag eh (Ag (em rfl eh) (Ag (Ac rfl eh) (Ag (Ac rfl (em rfl eh)) (An (e_t (Ad rfl eh)) e_c (Aa ?_)))))
       exact ⟨true, hr, (Ad rfl (Ac rfl (em rfl h1))), (Ad rfl (Ac rfl (em rfl h2))), (Ad rfl (Ac rfl (em rfl h7))), eh, rfl⟩
     refine Ai eh ?_
     refine AB (e_t (Ac rfl h1)) (by exact rfl) ?_
     refine Ai (em rfl eh) ?_
     refine Ap (e_t eh) ((Am rfl 0).trans rfl) (by exact rfl) ?_
     refine Ai (Ac rfl eh) ?_
     refine Ij (e_t eh) ?_
     refine Ai (Ac rfl (em rfl eh)) ?_
     refine As (e_t eh) e_c (C8 ?_)
     refine Ao (e_t (Ad rfl eh)) (e_t eh) (Aa ?_)
     exact ⟨(decide ((100 : Int) < (p0.Name.size : Int))), hr, (Ad rfl (Ac rfl (em rfl h1))), (Ad rfl (Ac rfl (em rfl h2))), (Ad rfl (Ac rfl (em rfl h7))), eh, rfl⟩
   rintro f st' ⟨v4, hr, h1, h2, h7, h46, rfl⟩
   rw [F5] at hr
   refine Bn ?_
   unfold Zu
   refine Ab (e_t h46) ?_
   refine Au eh hr (fun hr => ?_) (fun hr => ?_)
   · refine Ag eh (Ag (em rfl eh) (Ag (Ac rfl eh) (Ag (Ac rfl (em rfl eh)) (An (e_t (Ad rfl eh)) e_c (Aa ?_)))))
     unfold S1
     refine Ab (e_t eh) (Ag eh (Ag (em rfl eh) (Ag (Ac rfl eh) (Ag (Ac rfl (em rfl eh)) (An (e_t (Ad rfl eh)) e_c ?_)))))
     refine Aa (Ae ?_)
     exact ⟨true, hr, (Ak rfl (Ad rfl (em rfl h1))), (Ak rfl (Ad rfl (em rfl h2))), (Ak rfl (Ad rfl (em rfl h7))), eh, rfl⟩
   refine Ai eh ?_
   refine AB (e_t (Ac rfl h1)) (by exact rfl) ?_
   refine Ai (em rfl eh) ?_
   refine Ap (e_t eh) ((Am rfl 0).trans rfl) (by exact rfl) ?_
   refine Ai (Ac rfl eh) ?_
   refine Ij (e_t eh) ?_
   refine Ai (Ac rfl (em rfl eh)) ?_
   refine As (e_t eh) e_c (C8 ?_)
   refine Ao (e_t (Ad rfl eh)) (e_t eh) (Aa ?_)
   unfold S1
   refine Ab (e_t eh) ?_
   refine Au eh hr (fun hr => ?_) (fun hr => ?_)
   · refine Ag eh (Ag (em rfl eh) (Ag (Ac rfl eh) (Ag (Ac rfl (em rfl eh)) (An (e_t (Ad rfl eh)) e_c (Aa ?_)))))
     refine Ae ?_
     exact ⟨true, hr, (Ak rfl (Ad rfl (Ac rfl h1))), (Ak rfl (Ad rfl (Ac rfl h2))), (Ak rfl (Ad rfl (Ac rfl h7))), eh, rfl⟩
   refine Ai eh ?_
   refine AB (e_t (Ak rfl (em rfl h1))) (by exact rfl) ?_
   refine Ai (em rfl eh) ?_
   refine Ap (e_t eh) ((Am rfl 0).trans rfl) (by exact rfl) ?_
   refine Ai (Ac rfl eh) ?_
   refine Ij (e_t eh) ?_
   refine Ai (Ac rfl (em rfl eh)) ?_
   refine As (e_t eh) e_c (C8 ?_)
   refine Ao (e_t (Ad rfl eh)) (e_t eh) (Aa (Ae ?_))
   exact ⟨(decide ((100 : Int) < (p0.At.size : Int))), hr, (Ak rfl (Ad rfl (Ac rfl h1))), (Ak rfl (Ad rfl (Ac rfl h2))), (Ak rfl (Ad rfl (Ac rfl h7))), eh, rfl⟩
 rintro f st' ⟨v5, hr, h1, h2, h7, h58, rfl⟩
 rw [Iw] at hr
 refine AC (e_t h58) hr (fun hr => ?_) (fun hr => ?_)
 · refine Al (Af ?_)
   unfold Au3
   refine Bw (e_t h7) ((Am rfl 2).trans rfl) (Nat.le_of_ble_eq_true rfl) (by exact rfl) ?_
   refine Bl (e_t (em rfl h2)) ((Am rfl 1).trans rfl) (e_t eh) Bf rfl (Nat.le_of_ble_eq_true rfl) (by exact rfl) (cells' := [(.d (.str p0.Name)), (.d (.str p0.From)), (.d (.str p0.At)), (.d (.int .i64 p0.Fuel)), (.d (.sl (List.map T_api_Column.row p0.Params))), (.ex [])]) (by exact rfl) (Bo rfl _ _) ?_
   refine Ab e_c (Ab e_c (Ab e_c (Ab e_c (Aa (Ae ?_)))))
   refine AI (AA ?_)
   cases hr
   exact A7 (G9 (Ad rfl (em rfl h2)) ((Am rfl 1).trans rfl) (Nat.le_of_ble_eq_true rfl) (by exact rfl) (AG (Ac rfl (em rfl eh)) (AG (Ac rfl eh) (AG (em rfl eh) (AG eh AH))))) (HJ (Bu (Ad0 (Aq f_d (Aq f_d (Aq f_d (Aq f_d (Aq f_d (Aq VA B3))))))) (Bu FU (Bu FU (Bu FU (Bu FU HN))))) rfl) (Ay hwf) h
 refine AO (Ae (Al (Af ?_)))
 unfold Au4
 refine AB (e_t h1) (by exact rfl) ?_
 refine Ap (e_t eh) ((Am rfl 0).trans rfl) (by exact rfl) ?_
 refine AB (e_t (Ac rfl h1)) (by exact rfl) ?_
 refine Ap (e_t eh) ((Am rfl 0).trans rfl) (by exact rfl) ?_
 obtain ⟨v6, hc_v6, hr⟩ := bind_some hr
 refine AJ (Ar (e_t (Ac rfl eh)) AF (Ar (e_t eh) AF AM)) ?_
 refine AM2 n p0.Leaves p0.Knots hc_v6 ?_
 refine Cn (k := 3) rfl rfl ?_
 refine Bl (e_t eh) ((Am rfl 3).trans rfl) (e_t (em rfl eh)) Bf rfl (Nat.le_of_ble_eq_true rfl) (by exact rfl) (cells' := [(.d (.sl (List.map TE.row v6.Exprs))), (.d (.sl (List.map (rI .i64) v6.Nodes))), (.d (.sl (List.map (rI .i64) v6.Depth))), (.d (.sl (List.map TS.row v6.Stmts))), (.d (.sl (List.map (rI .i64) v6.Much))), (.d (.sl (List.map (rI .i64) v6.Deep)))]) (by exact rfl) (Bo rfl _ _) ?_
 refine Aa (Ae (Al (Af ?_)))
 unfold Ay0
 refine Ab e_c (Ab e_c (Aa (Ae (Al (Al ?_)))))
 refine Af ?_
 unfold As2
 refine Ab e_c (Aa (Ae ?_))
 refine AT ?_
 refine BX (fun m f st' => ∃ (v8 : (List TS)), ∃ (v9 : Int), ∃ (v10 : Int), ∃ (v11 : Int), ∃ (w7 : Nat), Dz p0 n v6 m v8 v9 v10 v11 = some r ∧ f 1 = (.ptr (st.length + 0) 0) ∧ f 2 = (.ptr (st.length + 1) 0) ∧ f 7 = (.ptr (st.length + 2) 0) ∧ f 8 = (.ptr (st.length + 3) 0) ∧ f 9 = (.d (.int .i64 v9)) ∧ f 10 = (.d (.int .i64 v10)) ∧ f 11 = (.d (.int .i64 v11)) ∧ st' = st ++ [(.box [(.d (.str p0.Name)), (.d (.str p0.From)), (.d (.str p0.At)), (.d (.int .i64 p0.Fuel)), (.d (.sl (List.map T_api_Column.row p0.Params))), (.d (.sl (List.map TLeaf.row p0.Leaves))), (.d (.sl (List.map TKnot.row p0.Knots))), (.d (.sl (List.map (rI .i64) p0.Body)))]), (.box [(.d (.str (⟨#[]⟩ : ByteArray))), (.d (.str (⟨#[]⟩ : ByteArray))), (.d (.str (⟨#[]⟩ : ByteArray))), (.d (.int .i64 (0 : Int))), (.ex []), (.ex [])]), (.box [(.d (.str p0.Name)), (.d (.str p0.From)), (.d (.str p0.At)), (.d (.int .i64 p0.Fuel)), (.d (.sl (List.map T_api_Column.row p0.Params))), (.own (st.length + 4) w7)]), (.box [(.d (.sl (List.map TE.row v6.Exprs))), (.d (.sl (List.map (rI .i64) v6.Nodes))), (.d (.sl (List.map (rI .i64) v6.Depth))), (.d (.sl (List.map TS.row v6.Stmts))), (.d (.sl (List.map (rI .i64) v6.Much))), (.d (.sl (List.map (rI .i64) v6.Deep)))]), (.row AU w7 (List.map TS.row v8))]) n (GA (k := 4) (cells := [(.d (.str p0.Name)), (.d (.str p0.From)), (.d (.str p0.At)), (.d (.int .i64 p0.Fuel)), (.d (.sl (List.map T_api_Column.row p0.Params))), (.ex [])]) 2 5 (List.map TS.row ([])) AU 8 rfl rfl rfl rfl rfl (J9 TS.row_eq)) ⟨[], (0 : Int), (0 : Int), (0 : Int), 0, hr, (Ak rfl (em rfl h1)), (Ak rfl (em rfl h2)), (Ak rfl (em rfl h7)), (Ac rfl (em rfl eh)), (Ac rfl eh), (em rfl eh), eh, rfl⟩ ?_
 rintro m f st' ⟨v8, v9, v10, v11, w7, hr, h1, h2, h7, h8, h9, h10, h11, rfl⟩
 cases m with
 | zero => cases hr
 | succ m_0 =>
   rw [Dz] at hr
   generalize hrec_0 : Dz p0 n v6 m_0 = q0 at hr
   rw [I2] at hr
   unfold Am7
   refine Al ?_
   refine By (fun f st' => ∃ (v12 : Bool), Iz p0 n v6 v8 v9 v10 v11 q0 v12 = some r ∧ f 1 = (.ptr (st.length + 0) 0) ∧ f 2 = (.ptr (st.length + 1) 0) ∧ f 7 = (.ptr (st.length + 2) 0) ∧ f 8 = (.ptr (st.length + 3) 0) ∧ f 9 = (.d (.int .i64 v9)) ∧ f 10 = (.d (.int .i64 v10)) ∧ f 11 = (.d (.int .i64 v11)) ∧ f 75 = (.d (.bool v12)) ∧ st' = st ++ [(.box [(.d (.str p0.Name)), (.d (.str p0.From)), (.d (.str p0.At)), (.d (.int .i64 p0.Fuel)), (.d (.sl (List.map T_api_Column.row p0.Params))), (.d (.sl (List.map TLeaf.row p0.Leaves))), (.d (.sl (List.map TKnot.row p0.Knots))), (.d (.sl (List.map (rI .i64) p0.Body)))]), (.box [(.d (.str (⟨#[]⟩ : ByteArray))), (.d (.str (⟨#[]⟩ : ByteArray))), (.d (.str (⟨#[]⟩ : ByteArray))), (.d (.int .i64 (0 : Int))), (.ex []), (.ex [])]), (.box [(.d (.str p0.Name)), (.d (.str p0.From)), (.d (.str p0.At)), (.d (.int .i64 p0.Fuel)), (.d (.sl (List.map T_api_Column.row p0.Params))), (.own (st.length + 4) w7)]), (.box [(.d (.sl (List.map TE.row v6.Exprs))), (.d (.sl (List.map (rI .i64) v6.Nodes))), (.d (.sl (List.map (rI .i64) v6.Depth))), (.d (.sl (List.map TS.row v6.Stmts))), (.d (.sl (List.map (rI .i64) v6.Much))), (.d (.sl (List.map (rI .i64) v6.Deep)))]), (.row AU w7 (List.map TS.row v8))]) ?_ ?_
   · refine Af ?_
     unfold As9
     refine Ab (e_t h11) ?_
     refine AB (e_t (em rfl h1)) (by exact rfl) ?_
     refine Ap (e_t eh) ((Am rfl 0).trans rfl) (by exact rfl) ?_
     refine Bh (row := (rI .i64)) (AP (e_t eh) Bt) ?_
     refine As (e_t (Ac rfl (em rfl eh))) (e_t eh) (CM ?_)
     refine Ab (e_t eh) ?_
     refine Au eh hr (fun hr => ?_) (fun hr => ?_)
     rotate_left
     · refine Ag eh (Ag (em rfl eh) (Ag (Ac rfl eh) (Ag (Ac rfl (em rfl eh)) (Ao (e_t (Ad rfl eh)) e_c (Aa ?_)))))
       refine Ae ?_
       exact ⟨false, hr, (Ak rfl (Ad rfl h1)), (Ak rfl (Ad rfl h2)), (Ak rfl (Ad rfl h7)), (Ak rfl (Ad rfl h8)), (Ak rfl (Ad rfl h9)), (Ak rfl (Ad rfl h10)), (Ak rfl (Ad rfl h11)), eh, rfl⟩
     refine Ai eh ?_
     refine AB (e_t (Ad rfl (Ac rfl (em rfl h8)))) (by exact rfl) ?_
     refine Ai (em rfl eh) ?_
     refine Ap (e_t eh) ((Am rfl 3).trans rfl) (by exact rfl) ?_
     refine Ai (Ac rfl eh) ?_
     refine Bh (row := TS.row) (AP (e_t eh) Bt) ?_
     refine Ai (Ac rfl (em rfl eh)) ?_
     refine As (e_t eh) e_c (C8 ?_)
     refine An (e_t (Ad rfl eh)) (e_t eh) (Aa (Ae ?_))
     exact ⟨(decide ((0 : Int) < (v6.Stmts.length : Int))), hr, (Ak rfl (Ad rfl h1)), (Ak rfl (Ad rfl h2)), (Ak rfl (Ad rfl h7)), (Ak rfl (Ad rfl h8)), (Ak rfl (Ad rfl h9)), (Ak rfl (Ad rfl h10)), (Ak rfl (Ad rfl h11)), eh, rfl⟩
   rintro f st' ⟨v12, hr, h1, h2, h7, h8, h9, h10, h11, h75, rfl⟩
   rw [Iz] at hr
   refine AC (e_t h75) hr (fun hr => ?_) (fun hr => ?_)
   · refine AO (Ae (Al ?_))
     refine AT ?_
     refine Al ?_
     refine DP (k := 5) rfl rfl ?_
     unfold Ay4
     refine AB (e_t h8) (by exact rfl) ?_
     refine Ap (e_t eh) ((Am rfl 3).trans rfl) (by exact rfl) ?_
     refine Bh (row := TS.row) (AP (e_t eh) Bt) ?_
     refine As (e_t eh) e_c (Aw0 ?_)
     refine AB (e_t (Ad rfl h1)) (by exact rfl) ?_
     refine Ap (e_t eh) ((Am rfl 0).trans rfl) (by exact rfl) ?_
     refine Ab (e_t (Ad rfl (Ac rfl h11))) ?_
     refine Br (row := (rI .i64)) (AP (e_t (em rfl eh)) Bt) (e_t eh) hr (fun _ => rfl) (fun _ => rfl) (fun v13 hr => ?_)
     refine BI (e_t eh) (by exact rfl) ?_
     refine RY (e_t eh) ?_
     refine AB (e_t (Ak rfl (Ac rfl h8))) (by exact rfl) ?_
     refine Ap (e_t eh) ((Am rfl 3).trans rfl) (by exact rfl) ?_
     refine Bh (row := TS.row) (AP (e_t eh) Bt) ?_
     refine RY (e_t eh) ?_
     refine As (e_t (Ad rfl eh)) (e_t eh) (AN5 hr (fun hr => ?_))
     refine RY (e_t eh) ?_
     refine As (e_t (Ak rfl (Ad rfl eh))) (e_t eh) (Aw0 ?_)
     refine Ab (e_t eh) (Aa (Ae (Al ?_)))
     refine DP (k := 5) rfl rfl ?_
     unfold Ax5
     refine AB (e_t (Aj rfl (Ac rfl h7))) (by exact rfl) ?_
     refine Ap (e_t eh) ((Am rfl 2).trans rfl) (by exact rfl) ?_
     refine AB (e_t (Aj rfl (Ad rfl h8))) (by exact rfl) ?_
     refine Ap (e_t eh) ((Am rfl 3).trans rfl) (by exact rfl) ?_
     refine Ab (e_t (Ad rfl eh)) ?_
     refine Br (row := TS.row) (AP (e_t (em rfl eh)) Bt) (e_t eh) hr TS.row_eq (fun _ => rfl) (fun v14 hr => ?_)
     refine Dc (e_t eh) (Nat.le_of_ble_eq_true rfl) (by exact rfl) ?_
     refine Db (rows := List.map TS.row [v14]) (Li (by simp only [List.map, TS.row_eq]) (AE (e_t eh) Bf (Aw f_d (Aw f_d (Aw f_d (Aw f_d (Aw f_d (Aw f_d (Aw f_d (Aw f_d AL)))))))) rfl Eg)) ?_
     refine Hp (row := TS.row) (AP (e_t eh) K1) TS.row_eq (fun _ => rfl) (e_t (Ad rfl (Ac rfl eh))) ((Am rfl 4).trans rfl) (fun _ => (Bo rfl _ _)) hr (fun v15 hr => ?_)
     refine AB (e_t (Aj rfl (Ak rfl (Ac rfl (em rfl h7))))) (by exact rfl) ?_
     refine Bl (e_t eh) ((Am rfl 2).trans rfl) (e_t (em rfl eh)) rfl rfl (Nat.le_of_ble_eq_true rfl) (by exact rfl) (cells' := [(.d (.str p0.Name)), (.d (.str p0.From)), (.d (.str p0.At)), (.d (.int .i64 p0.Fuel)), (.d (.sl (List.map T_api_Column.row p0.Params))), (.own (st.length + 4) (w7 + 1))]) (by exact rfl) (Bo rfl _ _) ?_
     refine Aa (Ae (Al (Af ?_)))
     unfold Aj1
     refine Ab (e_t (Aj rfl (Ak rfl (Ad rfl h9)))) ?_
     refine AB (e_t (Aj rfl (Ak rfl (Ad rfl (em rfl h8))))) (by exact rfl) ?_
     refine Ap (e_t eh) ((Am rfl 3).trans rfl) (by exact rfl) ?_
     refine Ab (e_t (Ak rfl (Ad rfl (em rfl eh)))) ?_
     refine Br (row := (rI .i64)) (AP (e_t (em rfl eh)) Bt) (e_t eh) hr (fun _ => rfl) (fun _ => rfl) (fun v16 hr => ?_)
     refine BI (e_t eh) (by exact rfl) ?_
     refine As (e_t (Ad rfl (em rfl eh))) (e_t eh) (BU ?_)
     refine Ab (e_t eh) (Aa (Ae (Af ?_)))
     unfold Am5
     refine Ab (e_t (Aj rfl (Aj rfl (Ad rfl h10)))) ?_
     refine AB (e_t (Aj rfl (Aj rfl (Ad rfl (em rfl h8))))) (by exact rfl) ?_
     refine Ap (e_t eh) ((Am rfl 3).trans rfl) (by exact rfl) ?_
     refine Ab (e_t (Aj rfl (Ad rfl (em rfl eh)))) ?_
     refine Br (row := (rI .i64)) (AP (e_t (em rfl eh)) Bt) (e_t eh) hr (fun _ => rfl) (fun _ => rfl) (fun v17 hr => ?_)
     refine BI (e_t eh) (by exact rfl) ?_
     refine Ze (e_t (Ad rfl (em rfl eh))) (ZM (e_t eh) (RD ?_))
     refine Ab (e_t eh) (Aa ?_)
     refine BB ?_
     refine Ae (Af ?_)
     unfold Ak0
     refine Ab (e_t (Aj rfl (Aj rfl (Ak rfl (Ad rfl h11))))) ?_
     refine As (e_t eh) e_c (BU ?_)
     refine Ab (e_t eh) (Aa (Ae ?_))
     exact ⟨m_0, _, Nat.lt_succ_self m_0, Ghost.cut _ (st.length + 5) (Nat.le_add_right _ _), v15, (IntKind.wrap .i64 (v9 + v16)), (max v10 v17), (IntKind.wrap .i64 (v11 + (1 : Int))), (w7 + 1), (by rw [hrec_0]; exact hr), ((congrArg (cutV _) (Aj rfl (Aj rfl (Ak rfl (Ad rfl (Ac rfl (em rfl h1))))))).trans (by simp [cutV, AK])), ((congrArg (cutV _) (Aj rfl (Aj rfl (Ak rfl (Ad rfl (Ac rfl (em rfl h2))))))).trans (by simp [cutV, AK])), ((congrArg (cutV _) (Aj rfl (Aj rfl (Ak rfl (Ad rfl (Ac rfl (em rfl h7))))))).trans (by simp [cutV, AK])), ((congrArg (cutV _) (Aj rfl (Aj rfl (Ak rfl (Ad rfl (Ac rfl (em rfl h8))))))).trans (by simp [cutV, AK])), ((congrArg (cutV _) (Ak rfl (Ac rfl (em rfl eh)))).trans (v_d)), ((congrArg (cutV _) (Ac rfl (em rfl eh))).trans (v_d)), ((congrArg (cutV _) eh).trans (v_d)), (EN (l0 := [(.box [(.d (.str p0.Name)), (.d (.str p0.From)), (.d (.str p0.At)), (.d (.int .i64 p0.Fuel)), (.d (.sl (List.map T_api_Column.row p0.Params))), (.d (.sl (List.map TLeaf.row p0.Leaves))), (.d (.sl (List.map TKnot.row p0.Knots))), (.d (.sl (List.map (rI .i64) p0.Body)))]), (.box [(.d (.str (⟨#[]⟩ : ByteArray))), (.d (.str (⟨#[]⟩ : ByteArray))), (.d (.str (⟨#[]⟩ : ByteArray))), (.d (.int .i64 (0 : Int))), (.ex []), (.ex [])]), (.box [(.d (.str p0.Name)), (.d (.str p0.From)), (.d (.str p0.At)), (.d (.int .i64 p0.Fuel)), (.d (.sl (List.map T_api_Column.row p0.Params))), (.own (st.length + 4) (w7 + 1))]), (.box [(.d (.sl (List.map TE.row v6.Exprs))), (.d (.sl (List.map (rI .i64) v6.Nodes))), (.d (.sl (List.map (rI .i64) v6.Depth))), (.d (.sl (List.map TS.row v6.Stmts))), (.d (.sl (List.map (rI .i64) v6.Much))), (.d (.sl (List.map (rI .i64) v6.Deep)))]), (.row AU (w7 + 1) (List.map TS.row v15))]) (l1 := _) hwf rfl rfl (by simp [KH, cutV, AK, AK.belowL]))⟩
   refine CG ?_
   refine AW ?_
   refine AW ?_
   refine DF ?_
   refine Ae (Al (Af ?_))
   unfold Ak4
   refine Ab (e_t h9) (Ab (e_t (em rfl h10)) ?_)
   refine AJ (Ar (e_t (em rfl eh)) AF (Ar (e_t eh) AF AM)) ?_
   refine Ap0 v9 v10 rfl ?_
   refine Ab (e_t eh) ?_
   refine HP (e_t eh) (by exact rfl) ?_
   refine HP (e_t (em rfl eh)) (by exact rfl) ?_
   refine Ab (e_t (em rfl eh)) (Ab (e_t (em rfl eh)) (Aa (Ae (Al ?_))))
   refine HX (k := 5) rfl rfl ?_
   unfold Ai8
   refine Ah rfl (BL (e_t (Ad rfl (Ad rfl h7)))) (Bw (e_t (Ad rfl (Ad rfl h7))) ((Am rfl 2).trans rfl) (Nat.le_of_ble_eq_true rfl) (by exact rfl) (Aa ?_))
   refine Ah (R := []) rfl rfl (Ab (e_t (Ac rfl eh)) (Aa ?_))
   refine Ah (R := []) rfl rfl (Ab (e_t (Ac rfl eh)) (Aa ?_))
   refine Ah (R := []) rfl rfl (Ab (e_t (Ad rfl eh)) (Aa ?_))
   refine Ah (R := []) rfl rfl (As (e_t eh) e_c (JI (Aa ?_)))
   refine Ah (R := []) rfl rfl (Ab (e_t eh) (Aa ?_))
   refine CK eh hr (fun hr => ?_) (fun hr => ?_)
   rotate_left
   · refine Az eh (Az (em rfl eh) ?_)
     refine Ah (R := []) rfl rfl (Ao (e_t (Ac rfl eh)) e_c (Aa ?_))
     refine Ah (R := []) rfl rfl (Ab (e_t eh) (Aa ?_))
     refine Az eh (Az (em rfl eh) ?_)
     refine Ah (R := []) rfl rfl (Ao (e_t (Ac rfl eh)) e_c (Aa ?_))
     refine Ah (R := []) rfl rfl (Ab (e_t eh) (Aa ?_))
     refine Az eh (Az (em rfl eh) (Az (Ac rfl eh) ?_))
     refine Ah (R := []) rfl rfl (Ao (e_t (Ac rfl (em rfl eh))) e_c (Aa ?_))
     refine JW (e_t (Aj rfl (Ak rfl (Ac rfl (em rfl h2))))) ((Am rfl 1).trans rfl) (e_t (Aj rfl (Ac rfl eh))) Bf rfl (Nat.le_of_ble_eq_true rfl) (by exact rfl) (cells' := [(.d (.str p0.Name)), (.d (.str p0.From)), (.d (.str p0.At)), (.d (.int .i64 p0.Fuel)), (.d (.sl (List.map T_api_Column.row p0.Params))), (.own (st.length + 4) w7)]) (by exact rfl) (Bo rfl _ _) ?_
     refine Ah (R := []) rfl rfl (Ab (e_t (Aj rfl (em rfl eh))) (Aa ?_))
     refine Ah (R := []) rfl rfl (Ab (e_t (Aj rfl (em rfl eh))) (Aa ?_))
     refine Ah (R := []) rfl rfl (Ab (e_t (Ac rfl eh)) (Aa ?_))
     refine Ah (R := []) rfl rfl (Ab e_c (Aa ?_))
     refine BJ ?_
     refine ⟨by simp [B2, okPairs, BZ, Ga], ?_⟩
     refine Ae (AI ?_)
     cases hr
     exact A7 (G9 (Aj rfl (Ak rfl (Ad rfl (Ac rfl (em rfl h2))))) ((Am rfl 1).trans rfl) (Nat.le_of_ble_eq_true rfl) (by exact rfl) (AG (Ac rfl (em rfl eh)) (AG (Ac rfl eh) (AG (em rfl eh) (AG eh AH))))) (HJ (Bu (Ad0 (Aq f_d (Aq f_d (Aq f_d (Aq f_d (Aq f_d (Aq (LL ((Am rfl 4).trans rfl)) B3))))))) (Bu FU (Bu FU (Bu FU (Bu FU HN))))) rfl) (Ay hwf) h
   refine AZ eh ?_
   refine Ah (R := []) rfl rfl (Ab (e_t (Ad rfl (Ac rfl (em rfl eh)))) (Aa ?_))
   refine AZ (em rfl eh) ?_
   refine Ah (R := []) rfl rfl (As (e_t eh) e_c (JI (Aa ?_)))
   refine Ah (R := []) rfl rfl (An (e_t (Ac rfl eh)) (e_t eh) (Aa ?_))
   refine Ah (R := []) rfl rfl (Ab (e_t eh) (Aa ?_))
   refine CK eh hr (fun hr => ?_) (fun hr => ?_)
   rotate_left
   · refine Az eh (Az (em rfl eh) ?_)
     refine Ah (R := []) rfl rfl (Ao (e_t (Ac rfl eh)) e_c (Aa ?_))
     refine Ah (R := []) rfl rfl (Ab (e_t eh) (Aa ?_))
     refine Az eh (Az (em rfl eh) (Az (Ac rfl eh) ?_))
     refine Ah (R := []) rfl rfl (Ao (e_t (Ac rfl (em rfl eh))) e_c (Aa ?_))
     refine JW (e_t (Aj rfl (Ak rfl (Ad rfl h2)))) ((Am rfl 1).trans rfl) (e_t (Aj rfl (Ac rfl (em rfl eh)))) Bf rfl (Nat.le_of_ble_eq_true rfl) (by exact rfl) (cells' := [(.d (.str p0.Name)), (.d (.str p0.From)), (.d (.str p0.At)), (.d (.int .i64 p0.Fuel)), (.d (.sl (List.map T_api_Column.row p0.Params))), (.own (st.length + 4) w7)]) (by exact rfl) (Bo rfl _ _) ?_
     refine Ah (R := []) rfl rfl (Ab (e_t (Aj rfl (Ac rfl eh))) (Aa ?_))
     refine Ah (R := []) rfl rfl (Ab (e_t (Aj rfl (Ac rfl eh))) (Aa ?_))
     refine Ah (R := []) rfl rfl (Ab (e_t (Ac rfl eh)) (Aa ?_))
     refine Ah (R := []) rfl rfl (Ab e_c (Aa ?_))
     refine BJ ?_
     refine ⟨by simp [B2, okPairs, BZ, Ga], ?_⟩
     refine Ae (AI ?_)
     cases hr
     exact A7 (G9 (Aj rfl (Ak rfl (Ad rfl (Ad rfl h2)))) ((Am rfl 1).trans rfl) (Nat.le_of_ble_eq_true rfl) (by exact rfl) (AG (Ac rfl (em rfl eh)) (AG (Ac rfl eh) (AG (em rfl eh) (AG eh AH))))) (HJ (Bu (Ad0 (Aq f_d (Aq f_d (Aq f_d (Aq f_d (Aq f_d (Aq (LL ((Am rfl 4).trans rfl)) B3))))))) (Bu FU (Bu FU (Bu FU (Bu FU HN))))) rfl) (Ay hwf) h
   refine AZ eh ?_
   refine Ah rfl (BL (e_t (Aj rfl (Ad rfl h7)))) (Bw (e_t (Aj rfl (Ad rfl h7))) ((Am rfl 2).trans rfl) (Nat.le_of_ble_eq_true rfl) (by exact rfl) (Aa ?_))
   refine AZ (em rfl eh) ?_
   obtain ⟨v18, hc_v18, hr⟩ := bind_some hr
   refine Gg (Ar (e_t eh) (Bx (Aq f_d (Aq f_d (Aq f_d (Aq f_d (Aq f_d (Aq (LL ((Am rfl 4).trans rfl)) B3))))))) AM) (Cf (e_t eh) (by exact rfl) FL) (fun st2 => AP0 n (⟨p0.Name, p0.From, p0.At, p0.Fuel, p0.Params, v8⟩ : TP) hc_v18 ⟨rfl, rfl⟩) ?_
   refine Ah (R := []) rfl rfl (An (e_t (Ac rfl eh)) (e_t eh) (Aa ?_))
   refine Ah (R := []) rfl rfl (Ab (e_t eh) (Aa ?_))
   refine CK eh hr (fun hr => ?_) (fun hr => ?_)
   rotate_left
   · refine Az eh (Az (em rfl eh) (Az (Ac rfl eh) ?_))
     refine Ah (R := []) rfl rfl (Ao (e_t (Ac rfl (em rfl eh))) e_c (Aa ?_))
     refine JW (e_t (Aj rfl (Ak rfl (Ad rfl (em rfl h2))))) ((Am rfl 1).trans rfl) (e_t (Aj rfl (Ad rfl eh))) Bf rfl (Nat.le_of_ble_eq_true rfl) (by exact rfl) (cells' := [(.d (.str p0.Name)), (.d (.str p0.From)), (.d (.str p0.At)), (.d (.int .i64 p0.Fuel)), (.d (.sl (List.map T_api_Column.row p0.Params))), (.own (st.length + 4) w7)]) (by exact rfl) (Bo rfl _ _) ?_
     refine Ah (R := []) rfl rfl (Ab (e_t (Aj rfl (Ac rfl (em rfl eh)))) (Aa ?_))
     refine Ah (R := []) rfl rfl (Ab (e_t (Aj rfl (Ac rfl (em rfl eh)))) (Aa ?_))
     refine Ah (R := []) rfl rfl (Ab (e_t (Ac rfl eh)) (Aa ?_))
     refine Ah (R := []) rfl rfl (Ab e_c (Aa ?_))
     refine BJ ?_
     refine ⟨by simp [B2, okPairs, BZ, Ga], ?_⟩
     refine Ae (AI ?_)
     cases hr
     exact A7 (G9 (Aj rfl (Aj rfl (em rfl h2))) ((Am rfl 1).trans rfl) (Nat.le_of_ble_eq_true rfl) (by exact rfl) (AG (Ac rfl (em rfl eh)) (AG (Ac rfl eh) (AG (em rfl eh) (AG eh AH))))) (HJ (Bu (Ad0 (Aq f_d (Aq f_d (Aq f_d (Aq f_d (Aq f_d (Aq (LL ((Am rfl 4).trans rfl)) B3))))))) (Bu FU (Bu FU (Bu FU (Bu FU HN))))) rfl) (Ay hwf) h
   refine AZ eh ?_
   refine Ah (R := []) rfl rfl (AB (e_t (Aj rfl (Ak rfl (em rfl h7)))) (by exact rfl) (Aa ?_))
   refine AZ (em rfl eh) ?_
   refine Ah rfl (BL (e_t eh)) (Ap (e_t eh) ((Am rfl 2).trans rfl) (by exact rfl) (Aa ?_))
   refine AZ (Ac rfl eh) ?_
   obtain ⟨v19, hc_v19, hr⟩ := bind_some hr
   refine Gg (Ar (e_t eh) (Z7 ((Am rfl 4).trans rfl)) AM) (Cf (e_t eh) (by exact rfl) FL) (fun st2 => AJ0 n v8 hc_v19 ⟨rfl, rfl⟩) ?_
   refine Ah (R := []) rfl rfl (An (e_t (Ac rfl (em rfl eh))) (e_t eh) (Aa ?_))
   refine JW (e_t (Aj rfl (Ak rfl (Ad rfl (em rfl h2))))) ((Am rfl 1).trans rfl) (e_t (Aj rfl (Ad rfl eh))) Bf rfl (Nat.le_of_ble_eq_true rfl) (by exact rfl) (cells' := [(.d (.str p0.Name)), (.d (.str p0.From)), (.d (.str p0.At)), (.d (.int .i64 p0.Fuel)), (.d (.sl (List.map T_api_Column.row p0.Params))), (.own (st.length + 4) w7)]) (by exact rfl) (Bo rfl _ _) ?_
   refine Ah (R := []) rfl rfl (Ab (e_t (Aj rfl (Ac rfl (em rfl eh)))) (Aa ?_))
   refine Ah (R := []) rfl rfl (Ab (e_t (Aj rfl (Ac rfl (em rfl eh)))) (Aa ?_))
   refine Ah (R := []) rfl rfl (Ab (e_t (Ac rfl eh)) (Aa ?_))
   refine Ah (R := []) rfl rfl (Ab e_c (Aa ?_))
   refine BJ ?_
   refine ⟨by simp [B2, okPairs, BZ, Ga], ?_⟩
   refine Ae (AI ?_)
   cases hr
   exact A7 (G9 (Aj rfl (Aj rfl (em rfl h2))) ((Am rfl 1).trans rfl) (Nat.le_of_ble_eq_true rfl) (by exact rfl) (AG (Ac rfl (em rfl eh)) (AG (Ac rfl eh) (AG (em rfl eh) (AG eh AH))))) (HJ (Bu (Ad0 (Aq f_d (Aq f_d (Aq f_d (Aq f_d (Aq f_d (Aq (LL ((Am rfl 4).trans rfl)) B3))))))) (Bu FU (Bu FU (Bu FU (Bu FU HN))))) rfl) (Ay hwf) h
end Go.Ax
