import Derived.Test.YtojkpenjeglipaaIYT
import Derived.Test.YtojkpenjeglipaaICVX
import Derived.Test.YtojkpenjeglipaaICPrim
import Derived.Test.YtojkpenjeglipaaIYD12
import Derived.Test.YtojkpenjeglipaaIYD13
import Derived.Test.YtojkpenjeglipaaIYD14
import Derived.Test.YtojkpenjeglipaaIYD16
set_option linter.unusedVariables false
set_option linter.unusedSimpArgs false
namespace Go.Ax
attribute [local irreducible] BL ER FD Bf CF Fz B6 KZ HX upd ev u0 Dt frz A6 EB mmD bnd BV Ft Do CO GU Ht G2 cutV I1 Cv
variable {st : List Content}
def H8 (p0 : LSay) (n : Nat) (v6 : TTree) (v8 : (List TS)) (v9 : Int) (v10 : Int) (v11 : Int) (q0 : (List TS) → Int → Int → Int → Option (TP × Int × Int × Bool × Bool)) (v12 : Bool) : Option (TP × Int × Int × Bool × Bool) :=
 (bif v12 then ((Dh p0.Body v11).bind fun v13 => ((VX (decide ((IntKind.wrap .u64 (v6.Stmts.length : Int)) ≠ 0))).bind fun _ => ((Dh v6.Stmts (IntKind.wrap .i64 ((IntKind.wrap .i64 ((v6.Stmts.length : Int) - (1 : Int))) - (IntKind.wrap .i64 (Int.tmod (IntKind.wrap .u64 v13) (IntKind.wrap .u64 (v6.Stmts.length : Int))))))).bind fun v14 => ((Gq 144 v8 ([v14])).bind fun v15 => ((Dh v6.Much (IntKind.wrap .i64 ((IntKind.wrap .i64 ((v6.Stmts.length : Int) - (1 : Int))) - (IntKind.wrap .i64 (Int.tmod (IntKind.wrap .u64 v13) (IntKind.wrap .u64 (v6.Stmts.length : Int))))))).bind fun v16 => ((Dh v6.Deep (IntKind.wrap .i64 ((IntKind.wrap .i64 ((v6.Stmts.length : Int) - (1 : Int))) - (IntKind.wrap .i64 (Int.tmod (IntKind.wrap .u64 v13) (IntKind.wrap .u64 (v6.Stmts.length : Int))))))).bind fun v17 => q0 v15 (IntKind.wrap .i64 (v9 + v16)) (max v10 v17) (IntKind.wrap .i64 (v11 + (1 : Int))))))))) else (bif (decide (((Du v9 v10).1) ≤ (300 : Int))) then (bif (decide (((Du v9 v10).2) ≤ (12 : Int))) then ((Jw n (⟨p0.Name, p0.From, p0.At, p0.Fuel, p0.Params, v8⟩ : TP)).bind fun v18 => (bif v18 then ((B3 n v8).bind fun v19 => some ((⟨p0.Name, p0.From, p0.At, p0.Fuel, p0.Params, v8⟩ : TP), (Du v9 v10).1, (Du v9 v10).2, v19, true)) else some ((⟨p0.Name, p0.From, p0.At, p0.Fuel, p0.Params, v8⟩ : TP), (Du v9 v10).1, (Du v9 v10).2, false, true))) else some ((⟨p0.Name, p0.From, p0.At, p0.Fuel, p0.Params, v8⟩ : TP), (Du v9 v10).1, (Du v9 v10).2, false, true)) else some ((⟨p0.Name, p0.From, p0.At, p0.Fuel, p0.Params, v8⟩ : TP), (Du v9 v10).1, (Du v9 v10).2, false, true)))
def IP (p0 : LSay) (n : Nat) (v6 : TTree) (q0 : (List TS) → Int → Int → Int → Option (TP × Int × Int × Bool × Bool)) (v8 : (List TS)) (v9 : Int) (v10 : Int) (v11 : Int) : Option (TP × Int × Int × Bool × Bool) :=
 (bif (decide (v11 < (p0.Body.length : Int))) then (H8 p0 n v6 v8 v9 v10 v11 q0 (decide ((0 : Int) < (v6.Stmts.length : Int)))) else (H8 p0 n v6 v8 v9 v10 v11 q0 false))
def DB (p0 : LSay) (n : Nat) (v6 : TTree) : Nat → (List TS) → Int → Int → Int → Option (TP × Int × Int × Bool × Bool)
 | 0, _, _, _, _ => none
 | m + 1, v8, v9, v10, v11 => IP p0 n v6 (DB p0 n v6 m) v8 v9 v10 v11
def H5 (p0 : LSay) (n : Nat) (v5 : Bool) : Option (TP × Int × Int × Bool × Bool) :=
 (bif v5 then some ((⟨p0.Name, p0.From, p0.At, p0.Fuel, p0.Params, []⟩ : TP), (0 : Int), (0 : Int), false, false) else ((Kj n p0.Leaves p0.Knots).bind fun v6 => (DB p0 n v6 n ([]) (0 : Int) (0 : Int) (0 : Int))))
def FX (p0 : LSay) (n : Nat) (v4 : Bool) : Option (TP × Int × Int × Bool × Bool) :=
 (bif v4 then (H5 p0 n true) else (bif (decide ((100 : Int) < (p0.From.size : Int))) then (H5 p0 n true) else (H5 p0 n (decide ((100 : Int) < (p0.At.size : Int))))))
def FY (p0 : LSay) (n : Nat) (v3 : Bool) : Option (TP × Int × Int × Bool × Bool) :=
 (bif v3 then (FX p0 n true) else (FX p0 n (decide ((100 : Int) < (p0.Name.size : Int)))))
def FN (p0 : LSay) (n : Nat) (v2 : Bool) : Option (TP × Int × Int × Bool × Bool) :=
 (bif v2 then (FY p0 n true) else (FY p0 n (decide ((12 : Int) < (p0.Body.length : Int)))))
def Md (n : Nat) (p0 : LSay) : Option (TP × Int × Int × Bool × Bool) :=
 ((Ke n p0.Leaves p0.Knots).bind fun v1 => (bif v1 then (FN p0 n true) else (FN p0 n (decide ((12 : Int) < (p0.Params.length : Int))))))
set_option maxRecDepth 100000 in
set_option maxHeartbeats 4000000 in
theorem AR2 (n : Nat) (p0 : LSay) {r : (TP × Int × Int × Bool × Bool)} (hr : Md n p0 = some r) {K : PV → List Content → Prop} (h : K (.tup [(.agg [(.d (.str r.1.Name)), (.d (.str r.1.From)), (.d (.str r.1.At)), (.d (.int .i64 r.1.Fuel)), (.d (.sl (List.map T_api_Column.row r.1.Params))), (.d (.sl (List.map TS.row r.1.Body)))]), (.d (.int .i64 r.2.1)), (.d (.int .i64 r.2.2.1)), (.d (.bool r.2.2.2.1)), (.d (.bool r.2.2.2.2))]) st) : Aw PR AE4 [(.agg [(.d (.str p0.Name)), (.d (.str p0.From)), (.d (.str p0.At)), (.d (.int .i64 p0.Fuel)), (.d (.sl (List.map T_api_Column.row p0.Params))), (.d (.sl (List.map TLeaf.row p0.Leaves))), (.d (.sl (List.map TKnot.row p0.Knots))), (.d (.sl (List.map (rI .i64) p0.Body)))])] st K := by
 refine Aw.of AS2 (Nat.le_of_ble_eq_true rfl) fun hwf => ?_
 rw [Cm]
 refine AQ ?_
 unfold AO5
 rw [Md] at hr
 refine Al (Af ?_)
 unfold Ar2
 refine Gw (k := 0) rfl rfl (e_t eh) Bg (by exact rfl) ?_
 refine Ci (k := 1) rfl rfl ?_
 refine Ab e_c (Ab e_c (Ab e_c (Ab e_c (Aa (Ae ?_)))))
 refine Al (Af ?_)
 unfold Ao6
 refine AB (e_t (Ad rfl (em rfl eh))) (by exact rfl) ?_
 refine Ap (e_t eh) ((Am rfl 0).trans rfl) (by exact rfl) ?_
 refine AB (e_t (Ad rfl (Ac rfl (em rfl eh)))) (by exact rfl) ?_
 refine Ap (e_t eh) ((Am rfl 0).trans rfl) (by exact rfl) ?_
 refine AB (e_t (Ak rfl (em rfl eh))) (by exact rfl) ?_
 refine Ap (e_t eh) ((Am rfl 0).trans rfl) (by exact rfl) ?_
 refine AB (e_t (Ak rfl (Ac rfl (em rfl eh)))) (by exact rfl) ?_
 refine Ap (e_t eh) ((Am rfl 0).trans rfl) (by exact rfl) ?_
 refine AB (e_t (Ak rfl (Ad rfl (em rfl eh)))) (by exact rfl) ?_
 refine Ap (e_t eh) ((Am rfl 0).trans rfl) (by exact rfl) ?_
 refine Ir (cs := [(.d (.str p0.Name)), (.d (.str p0.From)), (.d (.str p0.At)), (.d (.int .i64 p0.Fuel)), (.d (.sl (List.map T_api_Column.row p0.Params))), (.ex [])]) (Cl (e_t (Ad rfl (Ad rfl eh))) AZ rfl (Nat.le_of_ble_eq_true rfl) (by exact rfl) (Cl (e_t (Ad rfl (Ac rfl eh))) AZ rfl (Nat.le_of_ble_eq_true rfl) (by exact rfl) (Cl (e_t (Ad rfl eh)) AZ rfl (Nat.le_of_ble_eq_true rfl) (by exact rfl) (Cl (e_t (Ac rfl eh)) AZ rfl (Nat.le_of_ble_eq_true rfl) (by exact rfl) (Cl (e_t eh) AZ rfl (Nat.le_of_ble_eq_true rfl) (by exact rfl) Kp))))) (Ck (e_t (Ad rfl (Ad rfl eh))) AZ (by exact rfl) (Ck (e_t (Ad rfl (Ac rfl eh))) AZ (by exact rfl) (Ck (e_t (Ad rfl eh)) AZ (by exact rfl) (Ck (e_t (Ac rfl eh)) AZ (by exact rfl) (Ck (e_t eh) AZ (by exact rfl) Kt))))) ?_
 refine Ci (k := 2) rfl rfl ?_
 refine Bl (e_t eh) ((Am rfl 2).trans rfl) (e_t (em rfl eh)) Bg rfl (Nat.le_of_ble_eq_true rfl) (by exact rfl) (cells' := [(.d (.str p0.Name)), (.d (.str p0.From)), (.d (.str p0.At)), (.d (.int .i64 p0.Fuel)), (.d (.sl (List.map T_api_Column.row p0.Params))), (.ex [])]) (by exact rfl) (Bk rfl _ _) ?_
 refine Aa (Ae (Al ?_))
 refine BD (fun f st' => ∃ (v5 : Bool), H5 p0 n v5 = some r ∧ f 1 = (.ptr (st.length + 0) 0) ∧ f 2 = (.ptr (st.length + 1) 0) ∧ f 7 = (.ptr (st.length + 2) 0) ∧ f 58 = (.d (.bool v5)) ∧ st' = st ++ [(.box [(.d (.str p0.Name)), (.d (.str p0.From)), (.d (.str p0.At)), (.d (.int .i64 p0.Fuel)), (.d (.sl (List.map T_api_Column.row p0.Params))), (.d (.sl (List.map TLeaf.row p0.Leaves))), (.d (.sl (List.map TKnot.row p0.Knots))), (.d (.sl (List.map (rI .i64) p0.Body)))]), (.box [(.d (.str (⟨#[]⟩ : ByteArray))), (.d (.str (⟨#[]⟩ : ByteArray))), (.d (.str (⟨#[]⟩ : ByteArray))), (.d (.int .i64 (0 : Int))), (.ex []), (.ex [])]), (.box [(.d (.str p0.Name)), (.d (.str p0.From)), (.d (.str p0.At)), (.d (.int .i64 p0.Fuel)), (.d (.sl (List.map T_api_Column.row p0.Params))), (.ex [])])]) ?_ ?_
 · refine Af ?_
   unfold Am5
   refine Bb (fun f st' => ∃ (v2 : Bool), FN p0 n v2 = some r ∧ f 1 = (.ptr (st.length + 0) 0) ∧ f 2 = (.ptr (st.length + 1) 0) ∧ f 7 = (.ptr (st.length + 2) 0) ∧ f 34 = (.d (.bool v2)) ∧ st' = st ++ [(.box [(.d (.str p0.Name)), (.d (.str p0.From)), (.d (.str p0.At)), (.d (.int .i64 p0.Fuel)), (.d (.sl (List.map T_api_Column.row p0.Params))), (.d (.sl (List.map TLeaf.row p0.Leaves))), (.d (.sl (List.map TKnot.row p0.Knots))), (.d (.sl (List.map (rI .i64) p0.Body)))]), (.box [(.d (.str (⟨#[]⟩ : ByteArray))), (.d (.str (⟨#[]⟩ : ByteArray))), (.d (.str (⟨#[]⟩ : ByteArray))), (.d (.int .i64 (0 : Int))), (.ex []), (.ex [])]), (.box [(.d (.str p0.Name)), (.d (.str p0.From)), (.d (.str p0.At)), (.d (.int .i64 p0.Fuel)), (.d (.sl (List.map T_api_Column.row p0.Params))), (.ex [])])]) ?_ ?_
   · unfold XR
     refine AB (e_t (Ai rfl (em rfl eh))) (by exact rfl) ?_
     refine Ap (e_t eh) ((Am rfl 0).trans rfl) (by exact rfl) ?_
     refine AB (e_t (Ai rfl (Ac rfl (em rfl eh)))) (by exact rfl) ?_
     refine Ap (e_t eh) ((Am rfl 0).trans rfl) (by exact rfl) ?_
     obtain ⟨v1, hc_v1, hr⟩ := bind_some hr
     refine AP (Ay (e_t (Ac rfl eh)) AG (Ay (e_t eh) AG AR)) ?_
     refine AI0 n p0.Leaves p0.Knots hc_v1 ?_
     refine Ab (e_t eh) ?_
     refine Au eh hr (fun hr => ?_) (fun hr => ?_)
     · refine Ah eh (Ah (em rfl eh) (Ah (Ac rfl eh) (Ah (Ac rfl (em rfl eh)) (An (e_t (Ad rfl eh)) e_c (Aa ?_)))))
       exact ⟨true, hr, (Ai rfl (Ak rfl (Ad rfl (em rfl eh)))), (Ai rfl (Ak rfl (Ad rfl eh))), (Ak rfl (Ad rfl eh)), eh, rfl⟩
     refine Aj eh ?_
     refine AB (e_t (Ai rfl (Ad rfl (Ad rfl eh)))) (by exact rfl) ?_
     refine Aj (em rfl eh) ?_
     refine Ap (e_t eh) ((Am rfl 0).trans rfl) (by exact rfl) ?_
     refine Aj (Ac rfl eh) ?_
     refine Bh (row := T_api_Column.row) (AL (e_t eh) Bq) ?_
     refine Aj (Ac rfl (em rfl eh)) ?_
     refine Ar (e_t eh) e_c (C8 ?_)
     refine Ao (e_t (Ad rfl eh)) (e_t eh) (Aa ?_)
     exact ⟨(decide ((12 : Int) < (p0.Params.length : Int))), hr, (Ai rfl (Ak rfl (Ad rfl (em rfl eh)))), (Ai rfl (Ak rfl (Ad rfl eh))), (Ak rfl (Ad rfl eh)), eh, rfl⟩
   rintro f st' ⟨v2, hr, h1, h2, h7, h34, rfl⟩
   rw [FN] at hr
   refine Bb (fun f st' => ∃ (v3 : Bool), FY p0 n v3 = some r ∧ f 1 = (.ptr (st.length + 0) 0) ∧ f 2 = (.ptr (st.length + 1) 0) ∧ f 7 = (.ptr (st.length + 2) 0) ∧ f 40 = (.d (.bool v3)) ∧ st' = st ++ [(.box [(.d (.str p0.Name)), (.d (.str p0.From)), (.d (.str p0.At)), (.d (.int .i64 p0.Fuel)), (.d (.sl (List.map T_api_Column.row p0.Params))), (.d (.sl (List.map TLeaf.row p0.Leaves))), (.d (.sl (List.map TKnot.row p0.Knots))), (.d (.sl (List.map (rI .i64) p0.Body)))]), (.box [(.d (.str (⟨#[]⟩ : ByteArray))), (.d (.str (⟨#[]⟩ : ByteArray))), (.d (.str (⟨#[]⟩ : ByteArray))), (.d (.int .i64 (0 : Int))), (.ex []), (.ex [])]), (.box [(.d (.str p0.Name)), (.d (.str p0.From)), (.d (.str p0.At)), (.d (.int .i64 p0.Fuel)), (.d (.sl (List.map T_api_Column.row p0.Params))), (.ex [])])]) ?_ ?_
   · unfold Yz
     refine Ab (e_t h34) ?_
     refine Au eh hr (fun hr => ?_) (fun hr => ?_)
     · refine Ah eh (Ah (em rfl eh) (Ah (Ac rfl eh) (Ah (Ac rfl (em rfl eh)) (An (e_t (Ad rfl eh)) e_c (Aa ?_)))))
       exact ⟨true, hr, (Ad rfl (Ac rfl (em rfl h1))), (Ad rfl (Ac rfl (em rfl h2))), (Ad rfl (Ac rfl (em rfl h7))), eh, rfl⟩
     refine Aj eh ?_
     refine AB (e_t (Ac rfl h1)) (by exact rfl) ?_
     refine Aj (em rfl eh) ?_
     refine Ap (e_t eh) ((Am rfl 0).trans rfl) (by exact rfl) ?_
     refine Aj (Ac rfl eh) ?_
     refine Bh (row := (rI .i64)) (AL (e_t eh) Bq) ?_
     refine Aj (Ac rfl (em rfl eh)) ?_
     refine Ar (e_t eh) e_c (C8 ?_)
     refine Ao (e_t (Ad rfl eh)) (e_t eh) (Aa ?_)
     exact ⟨(decide ((12 : Int) < (p0.Body.length : Int))), hr, (Ad rfl (Ac rfl (em rfl h1))), (Ad rfl (Ac rfl (em rfl h2))), (Ad rfl (Ac rfl (em rfl h7))), eh, rfl⟩
   rintro f st' ⟨v3, hr, h1, h2, h7, h40, rfl⟩
   rw [FY] at hr
   refine Bb (fun f st' => ∃ (v4 : Bool), FX p0 n v4 = some r ∧ f 1 = (.ptr (st.length + 0) 0) ∧ f 2 = (.ptr (st.length + 1) 0) ∧ f 7 = (.ptr (st.length + 2) 0) ∧ f 46 = (.d (.bool v4)) ∧ st' = st ++ [(.box [(.d (.str p0.Name)), (.d (.str p0.From)), (.d (.str p0.At)), (.d (.int .i64 p0.Fuel)), (.d (.sl (List.map T_api_Column.row p0.Params))), (.d (.sl (List.map TLeaf.row p0.Leaves))), (.d (.sl (List.map TKnot.row p0.Knots))), (.d (.sl (List.map (rI .i64) p0.Body)))]), (.box [(.d (.str (⟨#[]⟩ : ByteArray))), (.d (.str (⟨#[]⟩ : ByteArray))), (.d (.str (⟨#[]⟩ : ByteArray))), (.d (.int .i64 (0 : Int))), (.ex []), (.ex [])]), (.box [(.d (.str p0.Name)), (.d (.str p0.From)), (.d (.str p0.At)), (.d (.int .i64 p0.Fuel)), (.d (.sl (List.map T_api_Column.row p0.Params))), (.ex [])])]) ?_ ?_
   · unfold X1
     refine Ab (e_t h40) ?_
     refine Au eh hr (fun hr => ?_) (fun hr => ?_)
     · refine Ah eh (Ah (em rfl eh) (Ah (Ac rfl eh) (Ah (Ac rfl (em rfl eh)) (An (e_t (Ad rfl eh)) e_c (Aa ?_)))))
       exact ⟨true, hr, (Ad rfl (Ac rfl (em rfl h1))), (Ad rfl (Ac rfl (em rfl h2))), (Ad rfl (Ac rfl (em rfl h7))), eh, rfl⟩
     refine Aj eh ?_
     refine AB (e_t (Ac rfl h1)) (by exact rfl) ?_
     refine Aj (em rfl eh) ?_
     refine Ap (e_t eh) ((Am rfl 0).trans rfl) (by exact rfl) ?_
     refine Aj (Ac rfl eh) ?_
     refine H4 (e_t eh) ?_
     refine Aj (Ac rfl (em rfl eh)) ?_
     refine Ar (e_t eh) e_c (C8 ?_)
     refine Ao (e_t (Ad rfl eh)) (e_t eh) (Aa ?_)
     exact ⟨(decide ((100 : Int) < (p0.Name.size : Int))), hr, (Ad rfl (Ac rfl (em rfl h1))), (Ad rfl (Ac rfl (em rfl h2))), (Ad rfl (Ac rfl (em rfl h7))), eh, rfl⟩
   rintro f st' ⟨v4, hr, h1, h2, h7, h46, rfl⟩
   rw [FX] at hr
   refine Bo ?_
   unfold Y8
   refine Ab (e_t h46) ?_
   refine Au eh hr (fun hr => ?_) (fun hr => ?_)
   · refine Ah eh (Ah (em rfl eh) (Ah (Ac rfl eh) (Ah (Ac rfl (em rfl eh)) (An (e_t (Ad rfl eh)) e_c (Aa ?_)))))
     unfold Sj
     refine Ab (e_t eh) (Ah eh (Ah (em rfl eh) (Ah (Ac rfl eh) (Ah (Ac rfl (em rfl eh)) (An (e_t (Ad rfl eh)) e_c ?_)))))
     refine Aa (Ae ?_)
     exact ⟨true, hr, (Ak rfl (Ad rfl (em rfl h1))), (Ak rfl (Ad rfl (em rfl h2))), (Ak rfl (Ad rfl (em rfl h7))), eh, rfl⟩
   refine Aj eh ?_
   refine AB (e_t (Ac rfl h1)) (by exact rfl) ?_
   refine Aj (em rfl eh) ?_
   refine Ap (e_t eh) ((Am rfl 0).trans rfl) (by exact rfl) ?_
   refine Aj (Ac rfl eh) ?_
   refine H4 (e_t eh) ?_
   refine Aj (Ac rfl (em rfl eh)) ?_
   refine Ar (e_t eh) e_c (C8 ?_)
   refine Ao (e_t (Ad rfl eh)) (e_t eh) (Aa ?_)
   unfold Sj
   refine Ab (e_t eh) ?_
   refine Au eh hr (fun hr => ?_) (fun hr => ?_)
   · refine Ah eh (Ah (em rfl eh) (Ah (Ac rfl eh) (Ah (Ac rfl (em rfl eh)) (An (e_t (Ad rfl eh)) e_c (Aa ?_)))))
     refine Ae ?_
     exact ⟨true, hr, (Ak rfl (Ad rfl (Ac rfl h1))), (Ak rfl (Ad rfl (Ac rfl h2))), (Ak rfl (Ad rfl (Ac rfl h7))), eh, rfl⟩
   refine Aj eh ?_
   refine AB (e_t (Ak rfl (em rfl h1))) (by exact rfl) ?_
   refine Aj (em rfl eh) ?_
   refine Ap (e_t eh) ((Am rfl 0).trans rfl) (by exact rfl) ?_
   refine Aj (Ac rfl eh) ?_
   refine H4 (e_t eh) ?_
   refine Aj (Ac rfl (em rfl eh)) ?_
   refine Ar (e_t eh) e_c (C8 ?_)
   refine Ao (e_t (Ad rfl eh)) (e_t eh) (Aa (Ae ?_))
   exact ⟨(decide ((100 : Int) < (p0.At.size : Int))), hr, (Ak rfl (Ad rfl (Ac rfl h1))), (Ak rfl (Ad rfl (Ac rfl h2))), (Ak rfl (Ad rfl (Ac rfl h7))), eh, rfl⟩
 rintro f st' ⟨v5, hr, h1, h2, h7, h58, rfl⟩
 rw [H5] at hr
 refine AC (e_t h58) hr (fun hr => ?_) (fun hr => ?_)
 · refine Al (Af ?_)
   unfold An3
   refine BF (e_t h7) ((Am rfl 2).trans rfl) (Nat.le_of_ble_eq_true rfl) (by exact rfl) ?_
   refine Bl (e_t (em rfl h2)) ((Am rfl 1).trans rfl) (e_t eh) Bg rfl (Nat.le_of_ble_eq_true rfl) (by exact rfl) (cells' := [(.d (.str p0.Name)), (.d (.str p0.From)), (.d (.str p0.At)), (.d (.int .i64 p0.Fuel)), (.d (.sl (List.map T_api_Column.row p0.Params))), (.ex [])]) (by exact rfl) (Bk rfl _ _) ?_
   refine Ab e_c (Ab e_c (Ab e_c (Ab e_c (Aa (Ae ?_)))))
   refine AI (AA ?_)
   cases hr
   exact A7 (GK (Ad rfl (em rfl h2)) ((Am rfl 1).trans rfl) (Nat.le_of_ble_eq_true rfl) (by exact rfl) (AF (Ac rfl (em rfl eh)) (AF (Ac rfl eh) (AF (em rfl eh) (AF eh AH))))) (HE (Br (Xx (Aq f_d (Aq f_d (Aq f_d (Aq f_d (Aq f_d (Aq Uk Cw))))))) (Br FS (Br FS (Br FS (Br FS Hz))))) rfl) (Av hwf) h
 refine AN (Ae (Al (Af ?_)))
 unfold Ap3
 refine AB (e_t h1) (by exact rfl) ?_
 refine Ap (e_t eh) ((Am rfl 0).trans rfl) (by exact rfl) ?_
 refine AB (e_t (Ac rfl h1)) (by exact rfl) ?_
 refine Ap (e_t eh) ((Am rfl 0).trans rfl) (by exact rfl) ?_
 obtain ⟨v6, hc_v6, hr⟩ := bind_some hr
 refine AP (Ay (e_t (Ac rfl eh)) AG (Ay (e_t eh) AG AR)) ?_
 refine AE9 n p0.Leaves p0.Knots hc_v6 ?_
 refine Ci (k := 3) rfl rfl ?_
 refine Bl (e_t eh) ((Am rfl 3).trans rfl) (e_t (em rfl eh)) Bg rfl (Nat.le_of_ble_eq_true rfl) (by exact rfl) (cells' := [(.d (.sl (List.map TE.row v6.Exprs))), (.d (.sl (List.map (rI .i64) v6.Nodes))), (.d (.sl (List.map (rI .i64) v6.Depth))), (.d (.sl (List.map TS.row v6.Stmts))), (.d (.sl (List.map (rI .i64) v6.Much))), (.d (.sl (List.map (rI .i64) v6.Deep)))]) (by exact rfl) (Bk rfl _ _) ?_
 refine Aa (Ae (Al (Af ?_)))
 unfold Ao1
 refine Ab e_c (Ab e_c (Aa (Ae (Al (Al ?_)))))
 refine Af ?_
 unfold Ao3
 refine Ab e_c (Aa (Ae ?_))
 refine AX ?_
 refine Ca (fun m f st' => ∃ (v8 : (List TS)), ∃ (v9 : Int), ∃ (v10 : Int), ∃ (v11 : Int), ∃ (w7 : Nat), DB p0 n v6 m v8 v9 v10 v11 = some r ∧ f 1 = (.ptr (st.length + 0) 0) ∧ f 2 = (.ptr (st.length + 1) 0) ∧ f 7 = (.ptr (st.length + 2) 0) ∧ f 8 = (.ptr (st.length + 3) 0) ∧ f 9 = (.d (.int .i64 v9)) ∧ f 10 = (.d (.int .i64 v10)) ∧ f 11 = (.d (.int .i64 v11)) ∧ st' = st ++ [(.box [(.d (.str p0.Name)), (.d (.str p0.From)), (.d (.str p0.At)), (.d (.int .i64 p0.Fuel)), (.d (.sl (List.map T_api_Column.row p0.Params))), (.d (.sl (List.map TLeaf.row p0.Leaves))), (.d (.sl (List.map TKnot.row p0.Knots))), (.d (.sl (List.map (rI .i64) p0.Body)))]), (.box [(.d (.str (⟨#[]⟩ : ByteArray))), (.d (.str (⟨#[]⟩ : ByteArray))), (.d (.str (⟨#[]⟩ : ByteArray))), (.d (.int .i64 (0 : Int))), (.ex []), (.ex [])]), (.box [(.d (.str p0.Name)), (.d (.str p0.From)), (.d (.str p0.At)), (.d (.int .i64 p0.Fuel)), (.d (.sl (List.map T_api_Column.row p0.Params))), (.own (st.length + 4) w7)]), (.box [(.d (.sl (List.map TE.row v6.Exprs))), (.d (.sl (List.map (rI .i64) v6.Nodes))), (.d (.sl (List.map (rI .i64) v6.Depth))), (.d (.sl (List.map TS.row v6.Stmts))), (.d (.sl (List.map (rI .i64) v6.Much))), (.d (.sl (List.map (rI .i64) v6.Deep)))]), (.row AO w7 (List.map TS.row v8))]) n (Gm (k := 4) (cells := [(.d (.str p0.Name)), (.d (.str p0.From)), (.d (.str p0.At)), (.d (.int .i64 p0.Fuel)), (.d (.sl (List.map T_api_Column.row p0.Params))), (.ex [])]) 2 5 (List.map TS.row ([])) AO 8 rfl rfl rfl rfl rfl (JH TS.row_eq)) ⟨[], (0 : Int), (0 : Int), (0 : Int), 0, hr, (Ak rfl (em rfl h1)), (Ak rfl (em rfl h2)), (Ak rfl (em rfl h7)), (Ac rfl (em rfl eh)), (Ac rfl eh), (em rfl eh), eh, rfl⟩ ?_
 rintro m f st' ⟨v8, v9, v10, v11, w7, hr, h1, h2, h7, h8, h9, h10, h11, rfl⟩
 cases m with
 | zero => cases hr
 | succ m_0 =>
   rw [DB] at hr
   generalize hrec_0 : DB p0 n v6 m_0 = q0 at hr
   rw [IP] at hr
   unfold Ac8
   refine Al ?_
   refine BD (fun f st' => ∃ (v12 : Bool), H8 p0 n v6 v8 v9 v10 v11 q0 v12 = some r ∧ f 1 = (.ptr (st.length + 0) 0) ∧ f 2 = (.ptr (st.length + 1) 0) ∧ f 7 = (.ptr (st.length + 2) 0) ∧ f 8 = (.ptr (st.length + 3) 0) ∧ f 9 = (.d (.int .i64 v9)) ∧ f 10 = (.d (.int .i64 v10)) ∧ f 11 = (.d (.int .i64 v11)) ∧ f 75 = (.d (.bool v12)) ∧ st' = st ++ [(.box [(.d (.str p0.Name)), (.d (.str p0.From)), (.d (.str p0.At)), (.d (.int .i64 p0.Fuel)), (.d (.sl (List.map T_api_Column.row p0.Params))), (.d (.sl (List.map TLeaf.row p0.Leaves))), (.d (.sl (List.map TKnot.row p0.Knots))), (.d (.sl (List.map (rI .i64) p0.Body)))]), (.box [(.d (.str (⟨#[]⟩ : ByteArray))), (.d (.str (⟨#[]⟩ : ByteArray))), (.d (.str (⟨#[]⟩ : ByteArray))), (.d (.int .i64 (0 : Int))), (.ex []), (.ex [])]), (.box [(.d (.str p0.Name)), (.d (.str p0.From)), (.d (.str p0.At)), (.d (.int .i64 p0.Fuel)), (.d (.sl (List.map T_api_Column.row p0.Params))), (.own (st.length + 4) w7)]), (.box [(.d (.sl (List.map TE.row v6.Exprs))), (.d (.sl (List.map (rI .i64) v6.Nodes))), (.d (.sl (List.map (rI .i64) v6.Depth))), (.d (.sl (List.map TS.row v6.Stmts))), (.d (.sl (List.map (rI .i64) v6.Much))), (.d (.sl (List.map (rI .i64) v6.Deep)))]), (.row AO w7 (List.map TS.row v8))]) ?_ ?_
   · refine Af ?_
     unfold An2
     refine Ab (e_t h11) ?_
     refine AB (e_t (em rfl h1)) (by exact rfl) ?_
     refine Ap (e_t eh) ((Am rfl 0).trans rfl) (by exact rfl) ?_
     refine Bh (row := (rI .i64)) (AL (e_t eh) Bq) ?_
     refine Ar (e_t (Ac rfl (em rfl eh))) (e_t eh) (CL ?_)
     refine Ab (e_t eh) ?_
     refine Au eh hr (fun hr => ?_) (fun hr => ?_)
     rotate_left
     · refine Ah eh (Ah (em rfl eh) (Ah (Ac rfl eh) (Ah (Ac rfl (em rfl eh)) (Ao (e_t (Ad rfl eh)) e_c (Aa ?_)))))
       refine Ae ?_
       exact ⟨false, hr, (Ak rfl (Ad rfl h1)), (Ak rfl (Ad rfl h2)), (Ak rfl (Ad rfl h7)), (Ak rfl (Ad rfl h8)), (Ak rfl (Ad rfl h9)), (Ak rfl (Ad rfl h10)), (Ak rfl (Ad rfl h11)), eh, rfl⟩
     refine Aj eh ?_
     refine AB (e_t (Ad rfl (Ac rfl (em rfl h8)))) (by exact rfl) ?_
     refine Aj (em rfl eh) ?_
     refine Ap (e_t eh) ((Am rfl 3).trans rfl) (by exact rfl) ?_
     refine Aj (Ac rfl eh) ?_
     refine Bh (row := TS.row) (AL (e_t eh) Bq) ?_
     refine Aj (Ac rfl (em rfl eh)) ?_
     refine Ar (e_t eh) e_c (C8 ?_)
     refine An (e_t (Ad rfl eh)) (e_t eh) (Aa (Ae ?_))
     exact ⟨(decide ((0 : Int) < (v6.Stmts.length : Int))), hr, (Ak rfl (Ad rfl h1)), (Ak rfl (Ad rfl h2)), (Ak rfl (Ad rfl h7)), (Ak rfl (Ad rfl h8)), (Ak rfl (Ad rfl h9)), (Ak rfl (Ad rfl h10)), (Ak rfl (Ad rfl h11)), eh, rfl⟩
   rintro f st' ⟨v12, hr, h1, h2, h7, h8, h9, h10, h11, h75, rfl⟩
   rw [H8] at hr
   refine AC (e_t h75) hr (fun hr => ?_) (fun hr => ?_)
   · refine AN (Ae (Al ?_))
     refine AX ?_
     refine Al ?_
     refine DI (k := 5) rfl rfl ?_
     unfold As2
     refine AB (e_t h8) (by exact rfl) ?_
     refine Ap (e_t eh) ((Am rfl 3).trans rfl) (by exact rfl) ?_
     refine Bh (row := TS.row) (AL (e_t eh) Bq) ?_
     refine Ar (e_t eh) e_c (An6 ?_)
     refine AB (e_t (Ad rfl h1)) (by exact rfl) ?_
     refine Ap (e_t eh) ((Am rfl 0).trans rfl) (by exact rfl) ?_
     refine Ab (e_t (Ad rfl (Ac rfl h11))) ?_
     refine Bt (row := (rI .i64)) (AL (e_t (em rfl eh)) Bq) (e_t eh) hr (fun _ => rfl) (fun _ => rfl) (fun v13 hr => ?_)
     refine BG (e_t eh) (by exact rfl) ?_
     refine KV (e_t eh) ?_
     refine AB (e_t (Ak rfl (Ac rfl h8))) (by exact rfl) ?_
     refine Ap (e_t eh) ((Am rfl 3).trans rfl) (by exact rfl) ?_
     refine Bh (row := TS.row) (AL (e_t eh) Bq) ?_
     refine KV (e_t eh) ?_
     refine Ar (e_t (Ad rfl eh)) (e_t eh) (Ax1 hr (fun hr => ?_))
     refine KV (e_t eh) ?_
     refine Ar (e_t (Ak rfl (Ad rfl eh))) (e_t eh) (An6 ?_)
     refine Ab (e_t eh) (Aa (Ae (Al ?_)))
     refine DI (k := 5) rfl rfl ?_
     unfold Am1
     refine AB (e_t (Ai rfl (Ac rfl h7))) (by exact rfl) ?_
     refine Ap (e_t eh) ((Am rfl 2).trans rfl) (by exact rfl) ?_
     refine AB (e_t (Ai rfl (Ad rfl h8))) (by exact rfl) ?_
     refine Ap (e_t eh) ((Am rfl 3).trans rfl) (by exact rfl) ?_
     refine Ab (e_t (Ad rfl eh)) ?_
     refine Bt (row := TS.row) (AL (e_t (em rfl eh)) Bq) (e_t eh) hr TS.row_eq (fun _ => rfl) (fun v14 hr => ?_)
     refine DH (e_t eh) (Nat.le_of_ble_eq_true rfl) (by exact rfl) ?_
     refine CX (rows := List.map TS.row [v14]) (JU (by simp only [List.map, TS.row_eq]) (AE (e_t eh) Bg (As f_d (As f_d (As f_d (As f_d (As f_d (As f_d (As f_d (As f_d AK)))))))) rfl DV)) ?_
     refine Hg (row := TS.row) (AL (e_t eh) KJ) TS.row_eq (fun _ => rfl) (e_t (Ad rfl (Ac rfl eh))) ((Am rfl 4).trans rfl) (fun _ => (Bk rfl _ _)) hr (fun v15 hr => ?_)
     refine AB (e_t (Ai rfl (Ak rfl (Ac rfl (em rfl h7))))) (by exact rfl) ?_
     refine Bl (e_t eh) ((Am rfl 2).trans rfl) (e_t (em rfl eh)) rfl rfl (Nat.le_of_ble_eq_true rfl) (by exact rfl) (cells' := [(.d (.str p0.Name)), (.d (.str p0.From)), (.d (.str p0.At)), (.d (.int .i64 p0.Fuel)), (.d (.sl (List.map T_api_Column.row p0.Params))), (.own (st.length + 4) (w7 + 1))]) (by exact rfl) (Bk rfl _ _) ?_
     refine Aa (Ae (Al (Af ?_)))
     unfold Af4
     refine Ab (e_t (Ai rfl (Ak rfl (Ad rfl h9)))) ?_
     refine AB (e_t (Ai rfl (Ak rfl (Ad rfl (em rfl h8))))) (by exact rfl) ?_
     refine Ap (e_t eh) ((Am rfl 3).trans rfl) (by exact rfl) ?_
     refine Ab (e_t (Ak rfl (Ad rfl (em rfl eh)))) ?_
     refine Bt (row := (rI .i64)) (AL (e_t (em rfl eh)) Bq) (e_t eh) hr (fun _ => rfl) (fun _ => rfl) (fun v16 hr => ?_)
     refine BG (e_t eh) (by exact rfl) ?_
     refine Ar (e_t (Ad rfl (em rfl eh))) (e_t eh) (BX ?_)
     refine Ab (e_t eh) (Aa (Ae (Af ?_)))
     unfold Ad1
     refine Ab (e_t (Ai rfl (Ai rfl (Ad rfl h10)))) ?_
     refine AB (e_t (Ai rfl (Ai rfl (Ad rfl (em rfl h8))))) (by exact rfl) ?_
     refine Ap (e_t eh) ((Am rfl 3).trans rfl) (by exact rfl) ?_
     refine Ab (e_t (Ai rfl (Ad rfl (em rfl eh)))) ?_
     refine Bt (row := (rI .i64)) (AL (e_t (em rfl eh)) Bq) (e_t eh) hr (fun _ => rfl) (fun _ => rfl) (fun v17 hr => ?_)
     refine BG (e_t eh) (by exact rfl) ?_
     refine Zg (e_t (Ad rfl (em rfl eh))) (Zh (e_t eh) (PW ?_))
     refine Ab (e_t eh) (Aa ?_)
     refine BA ?_
     refine Ae (Af ?_)
     unfold Ad4
     refine Ab (e_t (Ai rfl (Ai rfl (Ak rfl (Ad rfl h11))))) ?_
     refine Ar (e_t eh) e_c (BX ?_)
     refine Ab (e_t eh) (Aa (Ae ?_))
     exact ⟨m_0, _, Nat.lt_succ_self m_0, Ghost.cut _ (st.length + 5) (Nat.le_add_right _ _), v15, (IntKind.wrap .i64 (v9 + v16)), (max v10 v17), (IntKind.wrap .i64 (v11 + (1 : Int))), (w7 + 1), (by rw [hrec_0]; exact hr), ((congrArg (cutV _) (Ai rfl (Ai rfl (Ak rfl (Ad rfl (Ac rfl (em rfl h1))))))).trans (by simp [cutV, AJ])), ((congrArg (cutV _) (Ai rfl (Ai rfl (Ak rfl (Ad rfl (Ac rfl (em rfl h2))))))).trans (by simp [cutV, AJ])), ((congrArg (cutV _) (Ai rfl (Ai rfl (Ak rfl (Ad rfl (Ac rfl (em rfl h7))))))).trans (by simp [cutV, AJ])), ((congrArg (cutV _) (Ai rfl (Ai rfl (Ak rfl (Ad rfl (Ac rfl (em rfl h8))))))).trans (by simp [cutV, AJ])), ((congrArg (cutV _) (Ak rfl (Ac rfl (em rfl eh)))).trans (v_d)), ((congrArg (cutV _) (Ac rfl (em rfl eh))).trans (v_d)), ((congrArg (cutV _) eh).trans (v_d)), (EO (l0 := [(.box [(.d (.str p0.Name)), (.d (.str p0.From)), (.d (.str p0.At)), (.d (.int .i64 p0.Fuel)), (.d (.sl (List.map T_api_Column.row p0.Params))), (.d (.sl (List.map TLeaf.row p0.Leaves))), (.d (.sl (List.map TKnot.row p0.Knots))), (.d (.sl (List.map (rI .i64) p0.Body)))]), (.box [(.d (.str (⟨#[]⟩ : ByteArray))), (.d (.str (⟨#[]⟩ : ByteArray))), (.d (.str (⟨#[]⟩ : ByteArray))), (.d (.int .i64 (0 : Int))), (.ex []), (.ex [])]), (.box [(.d (.str p0.Name)), (.d (.str p0.From)), (.d (.str p0.At)), (.d (.int .i64 p0.Fuel)), (.d (.sl (List.map T_api_Column.row p0.Params))), (.own (st.length + 4) (w7 + 1))]), (.box [(.d (.sl (List.map TE.row v6.Exprs))), (.d (.sl (List.map (rI .i64) v6.Nodes))), (.d (.sl (List.map (rI .i64) v6.Depth))), (.d (.sl (List.map TS.row v6.Stmts))), (.d (.sl (List.map (rI .i64) v6.Much))), (.d (.sl (List.map (rI .i64) v6.Deep)))]), (.row AO (w7 + 1) (List.map TS.row v15))]) (l1 := _) hwf rfl rfl (by simp [Ka, cutV, AJ, AJ.belowL]))⟩
   refine CP ?_
   refine A0 ?_
   refine A0 ?_
   refine Ea ?_
   refine Ae (Al (Af ?_))
   unfold Ac1
   refine Ab (e_t h9) (Ab (e_t (em rfl h10)) ?_)
   refine AP (Ay (e_t (em rfl eh)) AG (Ay (e_t eh) AG AR)) ?_
   refine Aj8 v9 v10 rfl ?_
   refine Ab (e_t eh) ?_
   refine GZ (e_t eh) (by exact rfl) ?_
   refine GZ (e_t (em rfl eh)) (by exact rfl) ?_
   refine Ab (e_t (em rfl eh)) (Ab (e_t (em rfl eh)) (Aa (Ae (Al ?_))))
   refine Hb (k := 5) rfl rfl ?_
   unfold Ad9
   refine Ag rfl (Bz (e_t (Ad rfl (Ad rfl h7)))) (BF (e_t (Ad rfl (Ad rfl h7))) ((Am rfl 2).trans rfl) (Nat.le_of_ble_eq_true rfl) (by exact rfl) (Aa ?_))
   refine Ag (R := []) rfl rfl (Ab (e_t (Ac rfl eh)) (Aa ?_))
   refine Ag (R := []) rfl rfl (Ab (e_t (Ac rfl eh)) (Aa ?_))
   refine Ag (R := []) rfl rfl (Ab (e_t (Ad rfl eh)) (Aa ?_))
   refine Ag (R := []) rfl rfl (Ar (e_t eh) e_c (JE (Aa ?_)))
   refine Ag (R := []) rfl rfl (Ab (e_t eh) (Aa ?_))
   refine CH eh hr (fun hr => ?_) (fun hr => ?_)
   rotate_left
   · refine Az eh (Az (em rfl eh) ?_)
     refine Ag (R := []) rfl rfl (Ao (e_t (Ac rfl eh)) e_c (Aa ?_))
     refine Ag (R := []) rfl rfl (Ab (e_t eh) (Aa ?_))
     refine Az eh (Az (em rfl eh) ?_)
     refine Ag (R := []) rfl rfl (Ao (e_t (Ac rfl eh)) e_c (Aa ?_))
     refine Ag (R := []) rfl rfl (Ab (e_t eh) (Aa ?_))
     refine Az eh (Az (em rfl eh) (Az (Ac rfl eh) ?_))
     refine Ag (R := []) rfl rfl (Ao (e_t (Ac rfl (em rfl eh))) e_c (Aa ?_))
     refine Iu (e_t (Ai rfl (Ak rfl (Ac rfl (em rfl h2))))) ((Am rfl 1).trans rfl) (e_t (Ai rfl (Ac rfl eh))) Bg rfl (Nat.le_of_ble_eq_true rfl) (by exact rfl) (cells' := [(.d (.str p0.Name)), (.d (.str p0.From)), (.d (.str p0.At)), (.d (.int .i64 p0.Fuel)), (.d (.sl (List.map T_api_Column.row p0.Params))), (.own (st.length + 4) w7)]) (by exact rfl) (Bk rfl _ _) ?_
     refine Ag (R := []) rfl rfl (Ab (e_t (Ai rfl (em rfl eh))) (Aa ?_))
     refine Ag (R := []) rfl rfl (Ab (e_t (Ai rfl (em rfl eh))) (Aa ?_))
     refine Ag (R := []) rfl rfl (Ab (e_t (Ac rfl eh)) (Aa ?_))
     refine Ag (R := []) rfl rfl (Ab e_c (Aa ?_))
     refine BC ?_
     refine ⟨by simp [BV, okPairs, BS, FE], ?_⟩
     refine Ae (AI ?_)
     cases hr
     exact A7 (GK (Ai rfl (Ak rfl (Ad rfl (Ac rfl (em rfl h2))))) ((Am rfl 1).trans rfl) (Nat.le_of_ble_eq_true rfl) (by exact rfl) (AF (Ac rfl (em rfl eh)) (AF (Ac rfl eh) (AF (em rfl eh) (AF eh AH))))) (HE (Br (Xx (Aq f_d (Aq f_d (Aq f_d (Aq f_d (Aq f_d (Aq (JB ((Am rfl 4).trans rfl)) Cw))))))) (Br FS (Br FS (Br FS (Br FS Hz))))) rfl) (Av hwf) h
   refine AY eh ?_
   refine Ag (R := []) rfl rfl (Ab (e_t (Ad rfl (Ac rfl (em rfl eh)))) (Aa ?_))
   refine AY (em rfl eh) ?_
   refine Ag (R := []) rfl rfl (Ar (e_t eh) e_c (JE (Aa ?_)))
   refine Ag (R := []) rfl rfl (An (e_t (Ac rfl eh)) (e_t eh) (Aa ?_))
   refine Ag (R := []) rfl rfl (Ab (e_t eh) (Aa ?_))
   refine CH eh hr (fun hr => ?_) (fun hr => ?_)
   rotate_left
   · refine Az eh (Az (em rfl eh) ?_)
     refine Ag (R := []) rfl rfl (Ao (e_t (Ac rfl eh)) e_c (Aa ?_))
     refine Ag (R := []) rfl rfl (Ab (e_t eh) (Aa ?_))
     refine Az eh (Az (em rfl eh) (Az (Ac rfl eh) ?_))
     refine Ag (R := []) rfl rfl (Ao (e_t (Ac rfl (em rfl eh))) e_c (Aa ?_))
     refine Iu (e_t (Ai rfl (Ak rfl (Ad rfl h2)))) ((Am rfl 1).trans rfl) (e_t (Ai rfl (Ac rfl (em rfl eh)))) Bg rfl (Nat.le_of_ble_eq_true rfl) (by exact rfl) (cells' := [(.d (.str p0.Name)), (.d (.str p0.From)), (.d (.str p0.At)), (.d (.int .i64 p0.Fuel)), (.d (.sl (List.map T_api_Column.row p0.Params))), (.own (st.length + 4) w7)]) (by exact rfl) (Bk rfl _ _) ?_
     refine Ag (R := []) rfl rfl (Ab (e_t (Ai rfl (Ac rfl eh))) (Aa ?_))
     refine Ag (R := []) rfl rfl (Ab (e_t (Ai rfl (Ac rfl eh))) (Aa ?_))
     refine Ag (R := []) rfl rfl (Ab (e_t (Ac rfl eh)) (Aa ?_))
     refine Ag (R := []) rfl rfl (Ab e_c (Aa ?_))
     refine BC ?_
     refine ⟨by simp [BV, okPairs, BS, FE], ?_⟩
     refine Ae (AI ?_)
     cases hr
     exact A7 (GK (Ai rfl (Ak rfl (Ad rfl (Ad rfl h2)))) ((Am rfl 1).trans rfl) (Nat.le_of_ble_eq_true rfl) (by exact rfl) (AF (Ac rfl (em rfl eh)) (AF (Ac rfl eh) (AF (em rfl eh) (AF eh AH))))) (HE (Br (Xx (Aq f_d (Aq f_d (Aq f_d (Aq f_d (Aq f_d (Aq (JB ((Am rfl 4).trans rfl)) Cw))))))) (Br FS (Br FS (Br FS (Br FS Hz))))) rfl) (Av hwf) h
   refine AY eh ?_
   refine Ag rfl (Bz (e_t (Ai rfl (Ad rfl h7)))) (BF (e_t (Ai rfl (Ad rfl h7))) ((Am rfl 2).trans rfl) (Nat.le_of_ble_eq_true rfl) (by exact rfl) (Aa ?_))
   refine AY (em rfl eh) ?_
   obtain ⟨v18, hc_v18, hr⟩ := bind_some hr
   refine F1 (Ay (e_t eh) (BP (Aq f_d (Aq f_d (Aq f_d (Aq f_d (Aq f_d (Aq (JB ((Am rfl 4).trans rfl)) Cw))))))) AR) (Cb (e_t eh) (by exact rfl) FC) (fun st2 => AJ7 n (⟨p0.Name, p0.From, p0.At, p0.Fuel, p0.Params, v8⟩ : TP) hc_v18 ⟨rfl, rfl⟩) ?_
   refine Ag (R := []) rfl rfl (An (e_t (Ac rfl eh)) (e_t eh) (Aa ?_))
   refine Ag (R := []) rfl rfl (Ab (e_t eh) (Aa ?_))
   refine CH eh hr (fun hr => ?_) (fun hr => ?_)
   rotate_left
   · refine Az eh (Az (em rfl eh) (Az (Ac rfl eh) ?_))
     refine Ag (R := []) rfl rfl (Ao (e_t (Ac rfl (em rfl eh))) e_c (Aa ?_))
     refine Iu (e_t (Ai rfl (Ak rfl (Ad rfl (em rfl h2))))) ((Am rfl 1).trans rfl) (e_t (Ai rfl (Ad rfl eh))) Bg rfl (Nat.le_of_ble_eq_true rfl) (by exact rfl) (cells' := [(.d (.str p0.Name)), (.d (.str p0.From)), (.d (.str p0.At)), (.d (.int .i64 p0.Fuel)), (.d (.sl (List.map T_api_Column.row p0.Params))), (.own (st.length + 4) w7)]) (by exact rfl) (Bk rfl _ _) ?_
     refine Ag (R := []) rfl rfl (Ab (e_t (Ai rfl (Ac rfl (em rfl eh)))) (Aa ?_))
     refine Ag (R := []) rfl rfl (Ab (e_t (Ai rfl (Ac rfl (em rfl eh)))) (Aa ?_))
     refine Ag (R := []) rfl rfl (Ab (e_t (Ac rfl eh)) (Aa ?_))
     refine Ag (R := []) rfl rfl (Ab e_c (Aa ?_))
     refine BC ?_
     refine ⟨by simp [BV, okPairs, BS, FE], ?_⟩
     refine Ae (AI ?_)
     cases hr
     exact A7 (GK (Ai rfl (Ai rfl (em rfl h2))) ((Am rfl 1).trans rfl) (Nat.le_of_ble_eq_true rfl) (by exact rfl) (AF (Ac rfl (em rfl eh)) (AF (Ac rfl eh) (AF (em rfl eh) (AF eh AH))))) (HE (Br (Xx (Aq f_d (Aq f_d (Aq f_d (Aq f_d (Aq f_d (Aq (JB ((Am rfl 4).trans rfl)) Cw))))))) (Br FS (Br FS (Br FS (Br FS Hz))))) rfl) (Av hwf) h
   refine AY eh ?_
   refine Ag (R := []) rfl rfl (AB (e_t (Ai rfl (Ak rfl (em rfl h7)))) (by exact rfl) (Aa ?_))
   refine AY (em rfl eh) ?_
   refine Ag rfl (Bz (e_t eh)) (Ap (e_t eh) ((Am rfl 2).trans rfl) (by exact rfl) (Aa ?_))
   refine AY (Ac rfl eh) ?_
   obtain ⟨v19, hc_v19, hr⟩ := bind_some hr
   refine F1 (Ay (e_t eh) (Yv ((Am rfl 4).trans rfl)) AR) (Cb (e_t eh) (by exact rfl) FC) (fun st2 => AC1 n v8 hc_v19 ⟨rfl, rfl⟩) ?_
   refine Ag (R := []) rfl rfl (An (e_t (Ac rfl (em rfl eh))) (e_t eh) (Aa ?_))
   refine Iu (e_t (Ai rfl (Ak rfl (Ad rfl (em rfl h2))))) ((Am rfl 1).trans rfl) (e_t (Ai rfl (Ad rfl eh))) Bg rfl (Nat.le_of_ble_eq_true rfl) (by exact rfl) (cells' := [(.d (.str p0.Name)), (.d (.str p0.From)), (.d (.str p0.At)), (.d (.int .i64 p0.Fuel)), (.d (.sl (List.map T_api_Column.row p0.Params))), (.own (st.length + 4) w7)]) (by exact rfl) (Bk rfl _ _) ?_
   refine Ag (R := []) rfl rfl (Ab (e_t (Ai rfl (Ac rfl (em rfl eh)))) (Aa ?_))
   refine Ag (R := []) rfl rfl (Ab (e_t (Ai rfl (Ac rfl (em rfl eh)))) (Aa ?_))
   refine Ag (R := []) rfl rfl (Ab (e_t (Ac rfl eh)) (Aa ?_))
   refine Ag (R := []) rfl rfl (Ab e_c (Aa ?_))
   refine BC ?_
   refine ⟨by simp [BV, okPairs, BS, FE], ?_⟩
   refine Ae (AI ?_)
   cases hr
   exact A7 (GK (Ai rfl (Ai rfl (em rfl h2))) ((Am rfl 1).trans rfl) (Nat.le_of_ble_eq_true rfl) (by exact rfl) (AF (Ac rfl (em rfl eh)) (AF (Ac rfl eh) (AF (em rfl eh) (AF eh AH))))) (HE (Br (Xx (Aq f_d (Aq f_d (Aq f_d (Aq f_d (Aq f_d (Aq (JB ((Am rfl 4).trans rfl)) Cw))))))) (Br FS (Br FS (Br FS (Br FS Hz))))) rfl) (Av hwf) h
end Go.Ax
