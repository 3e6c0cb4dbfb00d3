import Derived.Test.YtojkpenjeglipaaGreatTWT
import Derived.Test.YtojkpenjeglipaaGreatTCVX
import Derived.Test.YtojkpenjeglipaaGreatTCPrim
import Derived.Test.YtojkpenjeglipaaGreatTWD0
import Derived.Test.YtojkpenjeglipaaGreatTWD1
import Derived.Test.YtojkpenjeglipaaGreatTWD3
import Derived.Test.YtojkpenjeglipaaGreatTWD5
set_option linter.unusedVariables false
set_option maxRecDepth 100000
set_option maxHeartbeats 4000000
namespace Go.Ax
attribute [local irreducible] BH FA F2 Bf DM Hp Cq V4 Lz upd ev u0 Dh frz A4 EO mmD bnd Ch Gk DU C2 Ie JH FZ cutV NL CO
variable {st : List Content}
def SE (p0 : LSay) (n : Nat) (v6 : TTree) (v8 : (List TS)) (v9 : Int) (v10 : Int) (v11 : Int) (q0 : (List TS) → Int → Int → Int → Option (TP × Int × Int × Bool × Bool)) (v12 : Bool) : Option (TP × Int × Int × Bool × Bool) :=
 (bif v12 then ((Dw p0.Body v11).bind fun v13 => ((Br2 (decide ((IntKind.wrap .u64 (v6.Stmts.length : Int)) ≠ 0))).bind fun _ => ((Dw v6.Stmts (IntKind.wrap .i64 ((IntKind.wrap .i64 ((v6.Stmts.length : Int) - (1 : Int))) - (IntKind.wrap .i64 (Int.tmod (IntKind.wrap .u64 v13) (IntKind.wrap .u64 (v6.Stmts.length : Int))))))).bind fun v14 => ((MM 144 v8 ([v14])).bind fun v15 => ((Dw v6.Much (IntKind.wrap .i64 ((IntKind.wrap .i64 ((v6.Stmts.length : Int) - (1 : Int))) - (IntKind.wrap .i64 (Int.tmod (IntKind.wrap .u64 v13) (IntKind.wrap .u64 (v6.Stmts.length : Int))))))).bind fun v16 => ((Dw v6.Deep (IntKind.wrap .i64 ((IntKind.wrap .i64 ((v6.Stmts.length : Int) - (1 : Int))) - (IntKind.wrap .i64 (Int.tmod (IntKind.wrap .u64 v13) (IntKind.wrap .u64 (v6.Stmts.length : Int))))))).bind fun v17 => q0 v15 (IntKind.wrap .i64 (v9 + v16)) (max v10 v17) (IntKind.wrap .i64 (v11 + (1 : Int))))))))) else (bif (decide (((DI v9 v10).1) ≤ (300 : Int))) then (bif (decide (((DI v9 v10).2) ≤ (12 : Int))) then ((Vx n (⟨p0.Name, p0.From, p0.At, p0.Fuel, p0.Params, v8⟩ : TP)).bind fun v18 => (bif v18 then ((Di n v8).bind fun v19 => some ((⟨p0.Name, p0.From, p0.At, p0.Fuel, p0.Params, v8⟩ : TP), (DI v9 v10).1, (DI v9 v10).2, v19, true)) else some ((⟨p0.Name, p0.From, p0.At, p0.Fuel, p0.Params, v8⟩ : TP), (DI v9 v10).1, (DI v9 v10).2, false, true))) else some ((⟨p0.Name, p0.From, p0.At, p0.Fuel, p0.Params, v8⟩ : TP), (DI v9 v10).1, (DI v9 v10).2, false, true)) else some ((⟨p0.Name, p0.From, p0.At, p0.Fuel, p0.Params, v8⟩ : TP), (DI v9 v10).1, (DI v9 v10).2, false, true)))
def Vr (p0 : LSay) (n : Nat) (v6 : TTree) (q0 : (List TS) → Int → Int → Int → Option (TP × Int × Int × Bool × Bool)) (v8 : (List TS)) (v9 : Int) (v10 : Int) (v11 : Int) : Option (TP × Int × Int × Bool × Bool) :=
 (bif (decide (v11 < (p0.Body.length : Int))) then (SE p0 n v6 v8 v9 v10 v11 q0 (decide ((0 : Int) < (v6.Stmts.length : Int)))) else (SE p0 n v6 v8 v9 v10 v11 q0 false))
def Hj (p0 : LSay) (n : Nat) (v6 : TTree) : Nat → (List TS) → Int → Int → Int → Option (TP × Int × Int × Bool × Bool)
 | 0, _, _, _, _ => none
 | m + 1, v8, v9, v10, v11 => Vr p0 n v6 (Hj p0 n v6 m) v8 v9 v10 v11
def SY (p0 : LSay) (n : Nat) (v5 : Bool) : Option (TP × Int × Int × Bool × Bool) :=
 (bif v5 then some ((⟨p0.Name, p0.From, p0.At, p0.Fuel, p0.Params, []⟩ : TP), (0 : Int), (0 : Int), false, false) else ((MU n p0.Leaves p0.Knots).bind fun v6 => (Hj p0 n v6 n ([]) (0 : Int) (0 : Int) (0 : Int))))
def Is (p0 : LSay) (n : Nat) (v4 : Bool) : Option (TP × Int × Int × Bool × Bool) :=
 (bif v4 then (SY p0 n true) else (bif (decide ((100 : Int) < (p0.From.size : Int))) then (SY p0 n true) else (SY p0 n (decide ((100 : Int) < (p0.At.size : Int))))))
def Iq (p0 : LSay) (n : Nat) (v3 : Bool) : Option (TP × Int × Int × Bool × Bool) :=
 (bif v3 then (Is p0 n true) else (Is p0 n (decide ((100 : Int) < (p0.Name.size : Int)))))
def Ia (p0 : LSay) (n : Nat) (v2 : Bool) : Option (TP × Int × Int × Bool × Bool) :=
 (bif v2 then (Iq p0 n true) else (Iq p0 n (decide ((12 : Int) < (p0.Body.length : Int)))))
def Af9 (n : Nat) (p0 : LSay) : Option (TP × Int × Int × Bool × Bool) :=
 ((Nc n p0.Leaves p0.Knots).bind fun v1 => (bif v1 then (Ia p0 n true) else (Ia p0 n (decide ((12 : Int) < (p0.Params.length : Int))))))
theorem Cj4 (n : Nat) (p0 : LSay) {r : (TP × Int × Int × Bool × Bool)} (hr : Af9 n p0 = some r) {K : PV → List Content → Prop} (h : K (.tup [(.agg [(.d (.str r.1.Name)), (.d (.str r.1.From)), (.d (.str r.1.At)), (.d (.int .i64 r.1.Fuel)), (.d (.sl (List.map T_api_Column.row r.1.Params))), (.d (.sl (List.map TS.row r.1.Body)))]), (.d (.int .i64 r.2.1)), (.d (.int .i64 r.2.2.1)), (.d (.bool r.2.2.2.1)), (.d (.bool r.2.2.2.2))]) st) : Aw PR BW5 [(.agg [(.d (.str p0.Name)), (.d (.str p0.From)), (.d (.str p0.At)), (.d (.int .i64 p0.Fuel)), (.d (.sl (List.map T_api_Column.row p0.Params))), (.d (.sl (List.map TLeaf.row p0.Leaves))), (.d (.sl (List.map TKnot.row p0.Knots))), (.d (.sl (List.map (rI .i64) p0.Body)))])] st K := by
 refine Aw.of Ci0 (Nat.le_of_ble_eq_true rfl) fun hwf => ?_
 rw [CE]
 refine AS ?_
 unfold Ce7
 rw [Af9] at hr
 refine Al (Af ?_)
 unfold By8
 refine GV (k := 0) rfl rfl (e_t eh) Bi (by rfl) ?_
 refine Dv (k := 1) rfl rfl ?_
 refine Ab e_c (Ab e_c (Ab e_c (Ab e_c (Aa (Ae ?_)))))
 refine Al (Af ?_)
 unfold BD5
 refine AA (e_t (Ad rfl (em rfl eh))) (by rfl) ?_
 refine Ao (e_t eh) (gx 0 rfl) (by rfl) ?_
 refine AA (e_t (Ad rfl (Ac rfl (em rfl eh)))) (by rfl) ?_
 refine Ao (e_t eh) (gx 0 rfl) (by rfl) ?_
 refine AA (e_t (Ak rfl (em rfl eh))) (by rfl) ?_
 refine Ao (e_t eh) (gx 0 rfl) (by rfl) ?_
 refine AA (e_t (Ak rfl (Ac rfl (em rfl eh)))) (by rfl) ?_
 refine Ao (e_t eh) (gx 0 rfl) (by rfl) ?_
 refine AA (e_t (Ak rfl (Ad rfl (em rfl eh)))) (by rfl) ?_
 refine Ao (e_t eh) (gx 0 rfl) (by rfl) ?_
 refine T2 (cs := [(.d (.str p0.Name)), (.d (.str p0.From)), (.d (.str p0.At)), (.d (.int .i64 p0.Fuel)), (.d (.sl (List.map T_api_Column.row p0.Params))), (.ex [])]) (DZ (e_t (Ad rfl (Ad rfl eh))) A2 rfl (Nat.le_of_ble_eq_true rfl) (by rfl) (DZ (e_t (Ad rfl (Ac rfl eh))) A2 rfl (Nat.le_of_ble_eq_true rfl) (by rfl) (DZ (e_t (Ad rfl eh)) A2 rfl (Nat.le_of_ble_eq_true rfl) (by rfl) (DZ (e_t (Ac rfl eh)) A2 rfl (Nat.le_of_ble_eq_true rfl) (by rfl) (DZ (e_t eh) A2 rfl (Nat.le_of_ble_eq_true rfl) (by rfl) Ae4))))) (DX (e_t (Ad rfl (Ad rfl eh))) A2 (by rfl) (DX (e_t (Ad rfl (Ac rfl eh))) A2 (by rfl) (DX (e_t (Ad rfl eh)) A2 (by rfl) (DX (e_t (Ac rfl eh)) A2 (by rfl) (DX (e_t eh) A2 (by rfl) Ab6))))) ?_
 refine Dv (k := 2) rfl rfl ?_
 refine BB (e_t eh) (gx 2 rfl) (e_t (em rfl eh)) Bi rfl (Nat.le_of_ble_eq_true rfl) (by rfl) (cells' := [(.d (.str p0.Name)), (.d (.str p0.From)), (.d (.str p0.At)), (.d (.int .i64 p0.Fuel)), (.d (.sl (List.map T_api_Column.row p0.Params))), (.ex [])]) (by rfl) (BD rfl _ _) ?_
 refine Aa (Ae (Al ?_))
 refine BL (fun f st' => ∃ (v5 : Bool), SY p0 n v5 = some r ∧ f 1 = (.ptr (st.length + 0) 0) ∧ f 2 = (.ptr (st.length + 1) 0) ∧ f 7 = (.ptr (st.length + 2) 0) ∧ f 58 = (.d (.bool v5)) ∧ st' = st ++ [(.box [(.d (.str p0.Name)), (.d (.str p0.From)), (.d (.str p0.At)), (.d (.int .i64 p0.Fuel)), (.d (.sl (List.map T_api_Column.row p0.Params))), (.d (.sl (List.map TLeaf.row p0.Leaves))), (.d (.sl (List.map TKnot.row p0.Knots))), (.d (.sl (List.map (rI .i64) p0.Body)))]), (.box [(.d (.str (⟨#[]⟩ : ByteArray))), (.d (.str (⟨#[]⟩ : ByteArray))), (.d (.str (⟨#[]⟩ : ByteArray))), (.d (.int .i64 (0 : Int))), (.ex []), (.ex [])]), (.box [(.d (.str p0.Name)), (.d (.str p0.From)), (.d (.str p0.At)), (.d (.int .i64 p0.Fuel)), (.d (.sl (List.map T_api_Column.row p0.Params))), (.ex [])])]) ?_ ?_
 · refine Af ?_
   unfold BD3
   refine Ba (fun f st' => ∃ (v2 : Bool), Ia p0 n v2 = some r ∧ f 1 = (.ptr (st.length + 0) 0) ∧ f 2 = (.ptr (st.length + 1) 0) ∧ f 7 = (.ptr (st.length + 2) 0) ∧ f 34 = (.d (.bool v2)) ∧ st' = st ++ [(.box [(.d (.str p0.Name)), (.d (.str p0.From)), (.d (.str p0.At)), (.d (.int .i64 p0.Fuel)), (.d (.sl (List.map T_api_Column.row p0.Params))), (.d (.sl (List.map TLeaf.row p0.Leaves))), (.d (.sl (List.map TKnot.row p0.Knots))), (.d (.sl (List.map (rI .i64) p0.Body)))]), (.box [(.d (.str (⟨#[]⟩ : ByteArray))), (.d (.str (⟨#[]⟩ : ByteArray))), (.d (.str (⟨#[]⟩ : ByteArray))), (.d (.int .i64 (0 : Int))), (.ex []), (.ex [])]), (.box [(.d (.str p0.Name)), (.d (.str p0.From)), (.d (.str p0.At)), (.d (.int .i64 p0.Fuel)), (.d (.sl (List.map T_api_Column.row p0.Params))), (.ex [])])]) ?_ ?_
   · unfold Bm4
     refine AA (e_t (Ai rfl (em rfl eh))) (by rfl) ?_
     refine Ao (e_t eh) (gx 0 rfl) (by rfl) ?_
     refine AA (e_t (Ai rfl (Ac rfl (em rfl eh)))) (by rfl) ?_
     refine Ao (e_t eh) (gx 0 rfl) (by rfl) ?_
     obtain ⟨v1, hc_v1, hr⟩ := bind_some hr
     refine AY (Az (e_t (Ac rfl eh)) AF (Az (e_t eh) AF A1)) ?_
     refine BW9 n p0.Leaves p0.Knots hc_v1 ?_
     refine Ab (e_t eh) ?_
     refine Ar eh hr (fun hr => ?_) (fun hr => ?_)
     · refine Ah eh (Ah (em rfl eh) (Ah (Ac rfl eh) (Ah (Ac rfl (em rfl eh)) (Am (e_t (Ad rfl eh)) e_c (Aa ?_)))))
       exact ⟨true, hr, (Ai rfl (Ak rfl (Ad rfl (em rfl eh)))), (Ai rfl (Ak rfl (Ad rfl eh))), (Ak rfl (Ad rfl eh)), eh, rfl⟩
     refine Aj eh ?_
     refine AA (e_t (Ai rfl (Ad rfl (Ad rfl eh)))) (by rfl) ?_
     refine Aj (em rfl eh) ?_
     refine Ao (e_t eh) (gx 0 rfl) (by rfl) ?_
     refine Aj (Ac rfl eh) ?_
     refine Bc (row := T_api_Column.row) (AN (e_t eh) Bo) ?_
     refine Aj (Ac rfl (em rfl eh)) ?_
     refine Ap (e_t eh) e_c (B6 ?_)
     refine An (e_t (Ad rfl eh)) (e_t eh) (Aa ?_)
     exact ⟨(decide ((12 : Int) < (p0.Params.length : Int))), hr, (Ai rfl (Ak rfl (Ad rfl (em rfl eh)))), (Ai rfl (Ak rfl (Ad rfl eh))), (Ak rfl (Ad rfl eh)), eh, rfl⟩
   rintro f st' ⟨v2, hr, h1, h2, h7, h34, rfl⟩
   rw [Ia] at hr
   refine Ba (fun f st' => ∃ (v3 : Bool), Iq p0 n v3 = some r ∧ f 1 = (.ptr (st.length + 0) 0) ∧ f 2 = (.ptr (st.length + 1) 0) ∧ f 7 = (.ptr (st.length + 2) 0) ∧ f 40 = (.d (.bool v3)) ∧ st' = st ++ [(.box [(.d (.str p0.Name)), (.d (.str p0.From)), (.d (.str p0.At)), (.d (.int .i64 p0.Fuel)), (.d (.sl (List.map T_api_Column.row p0.Params))), (.d (.sl (List.map TLeaf.row p0.Leaves))), (.d (.sl (List.map TKnot.row p0.Knots))), (.d (.sl (List.map (rI .i64) p0.Body)))]), (.box [(.d (.str (⟨#[]⟩ : ByteArray))), (.d (.str (⟨#[]⟩ : ByteArray))), (.d (.str (⟨#[]⟩ : ByteArray))), (.d (.int .i64 (0 : Int))), (.ex []), (.ex [])]), (.box [(.d (.str p0.Name)), (.d (.str p0.From)), (.d (.str p0.At)), (.d (.int .i64 p0.Fuel)), (.d (.sl (List.map T_api_Column.row p0.Params))), (.ex [])])]) ?_ ?_
   · unfold Bk5
     refine Ab (e_t h34) ?_
     refine Ar eh hr (fun hr => ?_) (fun hr => ?_)
     · refine Ah eh (Ah (em rfl eh) (Ah (Ac rfl eh) (Ah (Ac rfl (em rfl eh)) (Am (e_t (Ad rfl eh)) e_c (Aa ?_)))))
       exact ⟨true, hr, (Ad rfl (Ac rfl (em rfl h1))), (Ad rfl (Ac rfl (em rfl h2))), (Ad rfl (Ac rfl (em rfl h7))), eh, rfl⟩
     refine Aj eh ?_
     refine AA (e_t (Ac rfl h1)) (by rfl) ?_
     refine Aj (em rfl eh) ?_
     refine Ao (e_t eh) (gx 0 rfl) (by rfl) ?_
     refine Aj (Ac rfl eh) ?_
     refine Bc (row := (rI .i64)) (AN (e_t eh) Bo) ?_
     refine Aj (Ac rfl (em rfl eh)) ?_
     refine Ap (e_t eh) e_c (B6 ?_)
     refine An (e_t (Ad rfl eh)) (e_t eh) (Aa ?_)
     exact ⟨(decide ((12 : Int) < (p0.Body.length : Int))), hr, (Ad rfl (Ac rfl (em rfl h1))), (Ad rfl (Ac rfl (em rfl h2))), (Ad rfl (Ac rfl (em rfl h7))), eh, rfl⟩
   rintro f st' ⟨v3, hr, h1, h2, h7, h40, rfl⟩
   rw [Iq] at hr
   refine Ba (fun f st' => ∃ (v4 : Bool), Is p0 n v4 = some r ∧ f 1 = (.ptr (st.length + 0) 0) ∧ f 2 = (.ptr (st.length + 1) 0) ∧ f 7 = (.ptr (st.length + 2) 0) ∧ f 46 = (.d (.bool v4)) ∧ st' = st ++ [(.box [(.d (.str p0.Name)), (.d (.str p0.From)), (.d (.str p0.At)), (.d (.int .i64 p0.Fuel)), (.d (.sl (List.map T_api_Column.row p0.Params))), (.d (.sl (List.map TLeaf.row p0.Leaves))), (.d (.sl (List.map TKnot.row p0.Knots))), (.d (.sl (List.map (rI .i64) p0.Body)))]), (.box [(.d (.str (⟨#[]⟩ : ByteArray))), (.d (.str (⟨#[]⟩ : ByteArray))), (.d (.str (⟨#[]⟩ : ByteArray))), (.d (.int .i64 (0 : Int))), (.ex []), (.ex [])]), (.box [(.d (.str p0.Name)), (.d (.str p0.From)), (.d (.str p0.At)), (.d (.int .i64 p0.Fuel)), (.d (.sl (List.map T_api_Column.row p0.Params))), (.ex [])])]) ?_ ?_
   · unfold Bm2
     refine Ab (e_t h40) ?_
     refine Ar eh hr (fun hr => ?_) (fun hr => ?_)
     · refine Ah eh (Ah (em rfl eh) (Ah (Ac rfl eh) (Ah (Ac rfl (em rfl eh)) (Am (e_t (Ad rfl eh)) e_c (Aa ?_)))))
       exact ⟨true, hr, (Ad rfl (Ac rfl (em rfl h1))), (Ad rfl (Ac rfl (em rfl h2))), (Ad rfl (Ac rfl (em rfl h7))), eh, rfl⟩
     refine Aj eh ?_
     refine AA (e_t (Ac rfl h1)) (by rfl) ?_
     refine Aj (em rfl eh) ?_
     refine Ao (e_t eh) (gx 0 rfl) (by rfl) ?_
     refine Aj (Ac rfl eh) ?_
     refine I2 (e_t eh) ?_
     refine Aj (Ac rfl (em rfl eh)) ?_
     refine Ap (e_t eh) e_c (B6 ?_)
     refine An (e_t (Ad rfl eh)) (e_t eh) (Aa ?_)
     exact ⟨(decide ((100 : Int) < (p0.Name.size : Int))), hr, (Ad rfl (Ac rfl (em rfl h1))), (Ad rfl (Ac rfl (em rfl h2))), (Ad rfl (Ac rfl (em rfl h7))), eh, rfl⟩
   rintro f st' ⟨v4, hr, h1, h2, h7, h46, rfl⟩
   rw [Is] at hr
   refine Bh ?_
   unfold Bi4
   refine Ab (e_t h46) ?_
   refine Ar eh hr (fun hr => ?_) (fun hr => ?_)
   · refine Ah eh (Ah (em rfl eh) (Ah (Ac rfl eh) (Ah (Ac rfl (em rfl eh)) (Am (e_t (Ad rfl eh)) e_c (Aa ?_)))))
     unfold Ar4
     refine Ab (e_t eh) (Ah eh (Ah (em rfl eh) (Ah (Ac rfl eh) (Ah (Ac rfl (em rfl eh)) (Am (e_t (Ad rfl eh)) e_c ?_)))))
     refine Aa (Ae ?_)
     exact ⟨true, hr, (Ak rfl (Ad rfl (em rfl h1))), (Ak rfl (Ad rfl (em rfl h2))), (Ak rfl (Ad rfl (em rfl h7))), eh, rfl⟩
   refine Aj eh ?_
   refine AA (e_t (Ac rfl h1)) (by rfl) ?_
   refine Aj (em rfl eh) ?_
   refine Ao (e_t eh) (gx 0 rfl) (by rfl) ?_
   refine Aj (Ac rfl eh) ?_
   refine I2 (e_t eh) ?_
   refine Aj (Ac rfl (em rfl eh)) ?_
   refine Ap (e_t eh) e_c (B6 ?_)
   refine An (e_t (Ad rfl eh)) (e_t eh) (Aa ?_)
   unfold Ar4
   refine Ab (e_t eh) ?_
   refine Ar eh hr (fun hr => ?_) (fun hr => ?_)
   · refine Ah eh (Ah (em rfl eh) (Ah (Ac rfl eh) (Ah (Ac rfl (em rfl eh)) (Am (e_t (Ad rfl eh)) e_c (Aa ?_)))))
     refine Ae ?_
     exact ⟨true, hr, (Ak rfl (Ad rfl (Ac rfl h1))), (Ak rfl (Ad rfl (Ac rfl h2))), (Ak rfl (Ad rfl (Ac rfl h7))), eh, rfl⟩
   refine Aj eh ?_
   refine AA (e_t (Ak rfl (em rfl h1))) (by rfl) ?_
   refine Aj (em rfl eh) ?_
   refine Ao (e_t eh) (gx 0 rfl) (by rfl) ?_
   refine Aj (Ac rfl eh) ?_
   refine I2 (e_t eh) ?_
   refine Aj (Ac rfl (em rfl eh)) ?_
   refine Ap (e_t eh) e_c (B6 ?_)
   refine An (e_t (Ad rfl eh)) (e_t eh) (Aa (Ae ?_))
   exact ⟨(decide ((100 : Int) < (p0.At.size : Int))), hr, (Ak rfl (Ad rfl (Ac rfl h1))), (Ak rfl (Ad rfl (Ac rfl h2))), (Ak rfl (Ad rfl (Ac rfl h7))), eh, rfl⟩
 rintro f st' ⟨v5, hr, h1, h2, h7, h58, rfl⟩
 rw [SY] at hr
 refine AB (e_t h58) hr (fun hr => ?_) (fun hr => ?_)
 · refine Al (Af ?_)
   unfold BD2
   refine Cn (e_t h7) (gx 2 rfl) (Nat.le_of_ble_eq_true rfl) (by rfl) ?_
   refine BB (e_t (em rfl h2)) (gx 1 rfl) (e_t eh) Bi rfl (Nat.le_of_ble_eq_true rfl) (by rfl) (cells' := [(.d (.str p0.Name)), (.d (.str p0.From)), (.d (.str p0.At)), (.d (.int .i64 p0.Fuel)), (.d (.sl (List.map T_api_Column.row p0.Params))), (.ex [])]) (by rfl) (BD rfl _ _) ?_
   refine Ab e_c (Ab e_c (Ab e_c (Ab e_c (Aa (Ae ?_)))))
   refine AH (Ay ?_)
   cases hr
   exact A5 (Iz (Ad rfl (em rfl h2)) (gx 1 rfl) (Nat.le_of_ble_eq_true rfl) (by rfl) (AE (Ac rfl (em rfl eh)) (AE (Ac rfl eh) (AE (em rfl eh) (AE eh AG))))) (JU (Bm (Bk6 (Aq f_d (Aq f_d (Aq f_d (Aq f_d (Aq f_d (Aq Cm2 Dg))))))) (Bm G8 (Bm G8 (Bm G8 (Bm G8 JW))))) rfl) (As hwf) h
 refine AM (Ae (Al (Af ?_)))
 unfold BF4
 refine AA (e_t h1) (by rfl) ?_
 refine Ao (e_t eh) (gx 0 rfl) (by rfl) ?_
 refine AA (e_t (Ac rfl h1)) (by rfl) ?_
 refine Ao (e_t eh) (gx 0 rfl) (by rfl) ?_
 obtain ⟨v6, hc_v6, hr⟩ := bind_some hr
 refine AY (Az (e_t (Ac rfl eh)) AF (Az (e_t eh) AF A1)) ?_
 refine BX0 n p0.Leaves p0.Knots hc_v6 ?_
 refine Dv (k := 3) rfl rfl ?_
 refine BB (e_t eh) (gx 3 rfl) (e_t (em rfl eh)) Bi rfl (Nat.le_of_ble_eq_true rfl) (by rfl) (cells' := [(.d (.sl (List.map TE.row v6.Exprs))), (.d (.sl (List.map (rI .i64) v6.Nodes))), (.d (.sl (List.map (rI .i64) v6.Depth))), (.d (.sl (List.map TS.row v6.Stmts))), (.d (.sl (List.map (rI .i64) v6.Much))), (.d (.sl (List.map (rI .i64) v6.Deep)))]) (by rfl) (BD rfl _ _) ?_
 refine Aa (Ae (Al (Af ?_)))
 unfold BE3
 refine Ab e_c (Ab e_c (Aa (Ae (Al (Al ?_)))))
 refine Af ?_
 unfold By4
 refine Ab e_c (Aa (Ae ?_))
 refine A3 ?_
 refine Cy (fun m f st' => ∃ (v8 : (List TS)), ∃ (v9 : Int), ∃ (v10 : Int), ∃ (v11 : Int), ∃ (w7 : Nat), Hj p0 n v6 m v8 v9 v10 v11 = some r ∧ f 1 = (.ptr (st.length + 0) 0) ∧ f 2 = (.ptr (st.length + 1) 0) ∧ f 7 = (.ptr (st.length + 2) 0) ∧ f 8 = (.ptr (st.length + 3) 0) ∧ f 9 = (.d (.int .i64 v9)) ∧ f 10 = (.d (.int .i64 v10)) ∧ f 11 = (.d (.int .i64 v11)) ∧ st' = st ++ [(.box [(.d (.str p0.Name)), (.d (.str p0.From)), (.d (.str p0.At)), (.d (.int .i64 p0.Fuel)), (.d (.sl (List.map T_api_Column.row p0.Params))), (.d (.sl (List.map TLeaf.row p0.Leaves))), (.d (.sl (List.map TKnot.row p0.Knots))), (.d (.sl (List.map (rI .i64) p0.Body)))]), (.box [(.d (.str (⟨#[]⟩ : ByteArray))), (.d (.str (⟨#[]⟩ : ByteArray))), (.d (.str (⟨#[]⟩ : ByteArray))), (.d (.int .i64 (0 : Int))), (.ex []), (.ex [])]), (.box [(.d (.str p0.Name)), (.d (.str p0.From)), (.d (.str p0.At)), (.d (.int .i64 p0.Fuel)), (.d (.sl (List.map T_api_Column.row p0.Params))), (.own (st.length + 4) w7)]), (.box [(.d (.sl (List.map TE.row v6.Exprs))), (.d (.sl (List.map (rI .i64) v6.Nodes))), (.d (.sl (List.map (rI .i64) v6.Depth))), (.d (.sl (List.map TS.row v6.Stmts))), (.d (.sl (List.map (rI .i64) v6.Much))), (.d (.sl (List.map (rI .i64) v6.Deep)))]), (.row AZ w7 (List.map TS.row v8))]) n (Gu (k := 4) (cells := [(.d (.str p0.Name)), (.d (.str p0.From)), (.d (.str p0.At)), (.d (.int .i64 p0.Fuel)), (.d (.sl (List.map T_api_Column.row p0.Params))), (.ex [])]) 2 5 (List.map TS.row ([])) AZ 8 rfl rfl rfl rfl rfl (Qi TS.row_eq)) ⟨[], (0 : Int), (0 : Int), (0 : Int), 0, hr, (Ak rfl (em rfl h1)), (Ak rfl (em rfl h2)), (Ak rfl (em rfl h7)), (Ac rfl (em rfl eh)), (Ac rfl eh), (em rfl eh), eh, rfl⟩ ?_
 rintro m f st' ⟨v8, v9, v10, v11, w7, hr, h1, h2, h7, h8, h9, h10, h11, rfl⟩
 cases m with
 | zero => cases hr
 | succ m_0 =>
   rw [Hj] at hr
   generalize hrec_0 : Hj p0 n v6 m_0 = q0 at hr
   rw [Vr] at hr
   unfold Bs6
   refine Al ?_
   refine BL (fun f st' => ∃ (v12 : Bool), SE p0 n v6 v8 v9 v10 v11 q0 v12 = some r ∧ f 1 = (.ptr (st.length + 0) 0) ∧ f 2 = (.ptr (st.length + 1) 0) ∧ f 7 = (.ptr (st.length + 2) 0) ∧ f 8 = (.ptr (st.length + 3) 0) ∧ f 9 = (.d (.int .i64 v9)) ∧ f 10 = (.d (.int .i64 v10)) ∧ f 11 = (.d (.int .i64 v11)) ∧ f 75 = (.d (.bool v12)) ∧ st' = st ++ [(.box [(.d (.str p0.Name)), (.d (.str p0.From)), (.d (.str p0.At)), (.d (.int .i64 p0.Fuel)), (.d (.sl (List.map T_api_Column.row p0.Params))), (.d (.sl (List.map TLeaf.row p0.Leaves))), (.d (.sl (List.map TKnot.row p0.Knots))), (.d (.sl (List.map (rI .i64) p0.Body)))]), (.box [(.d (.str (⟨#[]⟩ : ByteArray))), (.d (.str (⟨#[]⟩ : ByteArray))), (.d (.str (⟨#[]⟩ : ByteArray))), (.d (.int .i64 (0 : Int))), (.ex []), (.ex [])]), (.box [(.d (.str p0.Name)), (.d (.str p0.From)), (.d (.str p0.At)), (.d (.int .i64 p0.Fuel)), (.d (.sl (List.map T_api_Column.row p0.Params))), (.own (st.length + 4) w7)]), (.box [(.d (.sl (List.map TE.row v6.Exprs))), (.d (.sl (List.map (rI .i64) v6.Nodes))), (.d (.sl (List.map (rI .i64) v6.Depth))), (.d (.sl (List.map TS.row v6.Stmts))), (.d (.sl (List.map (rI .i64) v6.Much))), (.d (.sl (List.map (rI .i64) v6.Deep)))]), (.row AZ w7 (List.map TS.row v8))]) ?_ ?_
   · refine Af ?_
     unfold By2
     refine Ab (e_t h11) ?_
     refine AA (e_t (em rfl h1)) (by rfl) ?_
     refine Ao (e_t eh) (gx 0 rfl) (by rfl) ?_
     refine Bc (row := (rI .i64)) (AN (e_t eh) Bo) ?_
     refine Ap (e_t (Ac rfl (em rfl eh))) (e_t eh) (Da ?_)
     refine Ab (e_t eh) ?_
     refine Ar eh hr (fun hr => ?_) (fun hr => ?_)
     rotate_left
     · refine Ah eh (Ah (em rfl eh) (Ah (Ac rfl eh) (Ah (Ac rfl (em rfl eh)) (An (e_t (Ad rfl eh)) e_c (Aa ?_)))))
       refine Ae ?_
       exact ⟨false, hr, (Ak rfl (Ad rfl h1)), (Ak rfl (Ad rfl h2)), (Ak rfl (Ad rfl h7)), (Ak rfl (Ad rfl h8)), (Ak rfl (Ad rfl h9)), (Ak rfl (Ad rfl h10)), (Ak rfl (Ad rfl h11)), eh, rfl⟩
     refine Aj eh ?_
     refine AA (e_t (Ad rfl (Ac rfl (em rfl h8)))) (by rfl) ?_
     refine Aj (em rfl eh) ?_
     refine Ao (e_t eh) (gx 3 rfl) (by rfl) ?_
     refine Aj (Ac rfl eh) ?_
     refine Bc (row := TS.row) (AN (e_t eh) Bo) ?_
     refine Aj (Ac rfl (em rfl eh)) ?_
     refine Ap (e_t eh) e_c (B6 ?_)
     refine Am (e_t (Ad rfl eh)) (e_t eh) (Aa (Ae ?_))
     exact ⟨(decide ((0 : Int) < (v6.Stmts.length : Int))), hr, (Ak rfl (Ad rfl h1)), (Ak rfl (Ad rfl h2)), (Ak rfl (Ad rfl h7)), (Ak rfl (Ad rfl h8)), (Ak rfl (Ad rfl h9)), (Ak rfl (Ad rfl h10)), (Ak rfl (Ad rfl h11)), eh, rfl⟩
   rintro f st' ⟨v12, hr, h1, h2, h7, h8, h9, h10, h11, h75, rfl⟩
   rw [SE] at hr
   refine AB (e_t h75) hr (fun hr => ?_) (fun hr => ?_)
   · refine AM (Ae (Al ?_))
     refine A3 ?_
     refine Al ?_
     refine EQ (k := 5) rfl rfl ?_
     unfold BD8
     refine AA (e_t h8) (by rfl) ?_
     refine Ao (e_t eh) (gx 3 rfl) (by rfl) ?_
     refine Bc (row := TS.row) (AN (e_t eh) Bo) ?_
     refine Ap (e_t eh) e_c (BA1 ?_)
     refine AA (e_t (Ad rfl h1)) (by rfl) ?_
     refine Ao (e_t eh) (gx 0 rfl) (by rfl) ?_
     refine Ab (e_t (Ad rfl (Ac rfl h11))) ?_
     refine Bt (row := (rI .i64)) (AN (e_t (em rfl eh)) Bo) (e_t eh) hr (fun _ => rfl) (fun _ => rfl) (fun v13 hr => ?_)
     refine BF (e_t eh) (by rfl) ?_
     refine An2 (e_t eh) ?_
     refine AA (e_t (Ak rfl (Ac rfl h8))) (by rfl) ?_
     refine Ao (e_t eh) (gx 3 rfl) (by rfl) ?_
     refine Bc (row := TS.row) (AN (e_t eh) Bo) ?_
     refine An2 (e_t eh) ?_
     refine Ap (e_t (Ad rfl eh)) (e_t eh) (BZ5 hr (fun hr => ?_))
     refine An2 (e_t eh) ?_
     refine Ap (e_t (Ak rfl (Ad rfl eh))) (e_t eh) (BA1 ?_)
     refine Ab (e_t eh) (Aa (Ae (Al ?_)))
     refine EQ (k := 5) rfl rfl ?_
     unfold BE5
     refine AA (e_t (Ai rfl (Ac rfl h7))) (by rfl) ?_
     refine Ao (e_t eh) (gx 2 rfl) (by rfl) ?_
     refine AA (e_t (Ai rfl (Ad rfl h8))) (by rfl) ?_
     refine Ao (e_t eh) (gx 3 rfl) (by rfl) ?_
     refine Ab (e_t (Ad rfl eh)) ?_
     refine Bt (row := TS.row) (AN (e_t (em rfl eh)) Bo) (e_t eh) hr TS.row_eq (fun _ => rfl) (fun v14 hr => ?_)
     refine Ft (e_t eh) (Nat.le_of_ble_eq_true rfl) (by rfl) ?_
     refine DW (rows := List.map TS.row [v14]) (YJ (by simp only [List.map, TS.row_eq]) (AC (e_t eh) Bi (Au f_d (Au f_d (Au f_d (Au f_d (Au f_d (Au f_d (Au f_d (Au f_d AJ)))))))) rfl FJ)) ?_
     refine JL (row := TS.row) (AN (e_t eh) S4) TS.row_eq (fun _ => rfl) (e_t (Ad rfl (Ac rfl eh))) (gx 4 rfl) (fun _ => (BD rfl _ _)) hr (fun v15 hr => ?_)
     refine AA (e_t (Ai rfl (Ak rfl (Ac rfl (em rfl h7))))) (by rfl) ?_
     refine BB (e_t eh) (gx 2 rfl) (e_t (em rfl eh)) rfl rfl (Nat.le_of_ble_eq_true rfl) (by rfl) (cells' := [(.d (.str p0.Name)), (.d (.str p0.From)), (.d (.str p0.At)), (.d (.int .i64 p0.Fuel)), (.d (.sl (List.map T_api_Column.row p0.Params))), (.own (st.length + 4) (w7 + 1))]) (by rfl) (BD rfl _ _) ?_
     refine Aa (Ae (Al (Af ?_)))
     unfold Bs3
     refine Ab (e_t (Ai rfl (Ak rfl (Ad rfl h9)))) ?_
     refine AA (e_t (Ai rfl (Ak rfl (Ad rfl (em rfl h8))))) (by rfl) ?_
     refine Ao (e_t eh) (gx 3 rfl) (by rfl) ?_
     refine Ab (e_t (Ak rfl (Ad rfl (em rfl eh)))) ?_
     refine Bt (row := (rI .i64)) (AN (e_t (em rfl eh)) Bo) (e_t eh) hr (fun _ => rfl) (fun _ => rfl) (fun v16 hr => ?_)
     refine BF (e_t eh) (by rfl) ?_
     refine Ap (e_t (Ad rfl (em rfl eh))) (e_t eh) (B4 ?_)
     refine Ab (e_t eh) (Aa (Ae (Af ?_)))
     unfold Bq8
     refine Ab (e_t (Ai rfl (Ai rfl (Ad rfl h10)))) ?_
     refine AA (e_t (Ai rfl (Ai rfl (Ad rfl (em rfl h8))))) (by rfl) ?_
     refine Ao (e_t eh) (gx 3 rfl) (by rfl) ?_
     refine Ab (e_t (Ai rfl (Ad rfl (em rfl eh)))) ?_
     refine Bt (row := (rI .i64)) (AN (e_t (em rfl eh)) Bo) (e_t eh) hr (fun _ => rfl) (fun _ => rfl) (fun v17 hr => ?_)
     refine BF (e_t eh) (by rfl) ?_
     refine Bl7 (e_t (Ad rfl (em rfl eh))) (Bk0 (e_t eh) (Ag2 ?_))
     refine Ab (e_t eh) (Aa ?_)
     refine BQ ?_
     refine Ae (Af ?_)
     unfold Bs7
     refine Ab (e_t (Ai rfl (Ai rfl (Ak rfl (Ad rfl h11))))) ?_
     refine Ap (e_t eh) e_c (B4 ?_)
     refine Ab (e_t eh) (Aa (Ae ?_))
     exact ⟨m_0, _, Nat.lt_succ_self m_0, Ghost.cut _ (st.length + 5) (Nat.le_add_right _ _), v15, (IntKind.wrap .i64 (v9 + v16)), (max v10 v17), (IntKind.wrap .i64 (v11 + (1 : Int))), (w7 + 1), (by rw [hrec_0]; exact hr), ((congrArg (cutV _) (Ai rfl (Ai rfl (Ak rfl (Ad rfl (Ac rfl (em rfl h1))))))).trans (by simp [cutV, AP])), ((congrArg (cutV _) (Ai rfl (Ai rfl (Ak rfl (Ad rfl (Ac rfl (em rfl h2))))))).trans (by simp [cutV, AP])), ((congrArg (cutV _) (Ai rfl (Ai rfl (Ak rfl (Ad rfl (Ac rfl (em rfl h7))))))).trans (by simp [cutV, AP])), ((congrArg (cutV _) (Ai rfl (Ai rfl (Ak rfl (Ad rfl (Ac rfl (em rfl h8))))))).trans (by simp [cutV, AP])), ((congrArg (cutV _) (Ak rfl (Ac rfl (em rfl eh)))).trans (v_d)), ((congrArg (cutV _) (Ac rfl (em rfl eh))).trans (v_d)), ((congrArg (cutV _) eh).trans (v_d)), (H1 (l0 := [(.box [(.d (.str p0.Name)), (.d (.str p0.From)), (.d (.str p0.At)), (.d (.int .i64 p0.Fuel)), (.d (.sl (List.map T_api_Column.row p0.Params))), (.d (.sl (List.map TLeaf.row p0.Leaves))), (.d (.sl (List.map TKnot.row p0.Knots))), (.d (.sl (List.map (rI .i64) p0.Body)))]), (.box [(.d (.str (⟨#[]⟩ : ByteArray))), (.d (.str (⟨#[]⟩ : ByteArray))), (.d (.str (⟨#[]⟩ : ByteArray))), (.d (.int .i64 (0 : Int))), (.ex []), (.ex [])]), (.box [(.d (.str p0.Name)), (.d (.str p0.From)), (.d (.str p0.At)), (.d (.int .i64 p0.Fuel)), (.d (.sl (List.map T_api_Column.row p0.Params))), (.own (st.length + 4) (w7 + 1))]), (.box [(.d (.sl (List.map TE.row v6.Exprs))), (.d (.sl (List.map (rI .i64) v6.Nodes))), (.d (.sl (List.map (rI .i64) v6.Depth))), (.d (.sl (List.map TS.row v6.Stmts))), (.d (.sl (List.map (rI .i64) v6.Much))), (.d (.sl (List.map (rI .i64) v6.Deep)))]), (.row AZ (w7 + 1) (List.map TS.row v15))]) (l1 := _) hwf rfl rfl (by simp [X2, cutV, AP, AP.belowL]))⟩
   refine Dj ?_
   refine A8 ?_
   refine A8 ?_
   refine Fo ?_
   refine Ae (Al (Af ?_))
   unfold Bt3
   refine Ab (e_t h9) (Ab (e_t (em rfl h10)) ?_)
   refine AY (Az (e_t (em rfl eh)) AF (Az (e_t eh) AF A1)) ?_
   refine Bw0 v9 v10 rfl ?_
   refine Ab (e_t eh) ?_
   refine MZ (e_t eh) (by rfl) ?_
   refine MZ (e_t (em rfl eh)) (by rfl) ?_
   refine Ab (e_t (em rfl eh)) (Ab (e_t (em rfl eh)) (Aa (Ae (Al ?_))))
   refine IM (k := 5) rfl rfl ?_
   unfold Bt1
   refine Ag rfl (BM (e_t (Ad rfl (Ad rfl h7)))) (Cn (e_t (Ad rfl (Ad rfl h7))) (gx 2 rfl) (Nat.le_of_ble_eq_true rfl) (by rfl) (Aa ?_))
   refine Ag (R := []) rfl rfl (Ab (e_t (Ac rfl eh)) (Aa ?_))
   refine Ag (R := []) rfl rfl (Ab (e_t (Ac rfl eh)) (Aa ?_))
   refine Ag (R := []) rfl rfl (Ab (e_t (Ad rfl eh)) (Aa ?_))
   refine Ag (R := []) rfl rfl (Ap (e_t eh) e_c (M5 (Aa ?_)))
   refine Ag (R := []) rfl rfl (Ab (e_t eh) (Aa ?_))
   refine CC eh hr (fun hr => ?_) (fun hr => ?_)
   rotate_left
   · refine Av eh (Av (em rfl eh) ?_)
     refine Ag (R := []) rfl rfl (An (e_t (Ac rfl eh)) e_c (Aa ?_))
     refine Ag (R := []) rfl rfl (Ab (e_t eh) (Aa ?_))
     refine Av eh (Av (em rfl eh) ?_)
     refine Ag (R := []) rfl rfl (An (e_t (Ac rfl eh)) e_c (Aa ?_))
     refine Ag (R := []) rfl rfl (Ab (e_t eh) (Aa ?_))
     refine Av eh (Av (em rfl eh) (Av (Ac rfl eh) ?_))
     refine Ag (R := []) rfl rfl (An (e_t (Ac rfl (em rfl eh))) e_c (Aa ?_))
     refine KW (e_t (Ai rfl (Ak rfl (Ac rfl (em rfl h2))))) (gx 1 rfl) (e_t (Ai rfl (Ac rfl eh))) Bi rfl (Nat.le_of_ble_eq_true rfl) (by rfl) (cells' := [(.d (.str p0.Name)), (.d (.str p0.From)), (.d (.str p0.At)), (.d (.int .i64 p0.Fuel)), (.d (.sl (List.map T_api_Column.row p0.Params))), (.own (st.length + 4) w7)]) (by rfl) (BD rfl _ _) ?_
     refine Ag (R := []) rfl rfl (Ab (e_t (Ai rfl (em rfl eh))) (Aa ?_))
     refine Ag (R := []) rfl rfl (Ab (e_t (Ai rfl (em rfl eh))) (Aa ?_))
     refine Ag (R := []) rfl rfl (Ab (e_t (Ac rfl eh)) (Aa ?_))
     refine Ag (R := []) rfl rfl (Ab e_c (Aa ?_))
     refine BO ?_
     refine ⟨by simp [Ch, okPairs, BP, FY], ?_⟩
     refine Ae (AH ?_)
     cases hr
     exact A5 (Iz (Ai rfl (Ak rfl (Ad rfl (Ac rfl (em rfl h2))))) (gx 1 rfl) (Nat.le_of_ble_eq_true rfl) (by rfl) (AE (Ac rfl (em rfl eh)) (AE (Ac rfl eh) (AE (em rfl eh) (AE eh AG))))) (JU (Bm (Bk6 (Aq f_d (Aq f_d (Aq f_d (Aq f_d (Aq f_d (Aq (Ta (gx 4 rfl)) Dg))))))) (Bm G8 (Bm G8 (Bm G8 (Bm G8 JW))))) rfl) (As hwf) h
   refine AT eh ?_
   refine Ag (R := []) rfl rfl (Ab (e_t (Ad rfl (Ac rfl (em rfl eh)))) (Aa ?_))
   refine AT (em rfl eh) ?_
   refine Ag (R := []) rfl rfl (Ap (e_t eh) e_c (M5 (Aa ?_)))
   refine Ag (R := []) rfl rfl (Am (e_t (Ac rfl eh)) (e_t eh) (Aa ?_))
   refine Ag (R := []) rfl rfl (Ab (e_t eh) (Aa ?_))
   refine CC eh hr (fun hr => ?_) (fun hr => ?_)
   rotate_left
   · refine Av eh (Av (em rfl eh) ?_)
     refine Ag (R := []) rfl rfl (An (e_t (Ac rfl eh)) e_c (Aa ?_))
     refine Ag (R := []) rfl rfl (Ab (e_t eh) (Aa ?_))
     refine Av eh (Av (em rfl eh) (Av (Ac rfl eh) ?_))
     refine Ag (R := []) rfl rfl (An (e_t (Ac rfl (em rfl eh))) e_c (Aa ?_))
     refine KW (e_t (Ai rfl (Ak rfl (Ad rfl h2)))) (gx 1 rfl) (e_t (Ai rfl (Ac rfl (em rfl eh)))) Bi rfl (Nat.le_of_ble_eq_true rfl) (by rfl) (cells' := [(.d (.str p0.Name)), (.d (.str p0.From)), (.d (.str p0.At)), (.d (.int .i64 p0.Fuel)), (.d (.sl (List.map T_api_Column.row p0.Params))), (.own (st.length + 4) w7)]) (by rfl) (BD rfl _ _) ?_
     refine Ag (R := []) rfl rfl (Ab (e_t (Ai rfl (Ac rfl eh))) (Aa ?_))
     refine Ag (R := []) rfl rfl (Ab (e_t (Ai rfl (Ac rfl eh))) (Aa ?_))
     refine Ag (R := []) rfl rfl (Ab (e_t (Ac rfl eh)) (Aa ?_))
     refine Ag (R := []) rfl rfl (Ab e_c (Aa ?_))
     refine BO ?_
     refine ⟨by simp [Ch, okPairs, BP, FY], ?_⟩
     refine Ae (AH ?_)
     cases hr
     exact A5 (Iz (Ai rfl (Ak rfl (Ad rfl (Ad rfl h2)))) (gx 1 rfl) (Nat.le_of_ble_eq_true rfl) (by rfl) (AE (Ac rfl (em rfl eh)) (AE (Ac rfl eh) (AE (em rfl eh) (AE eh AG))))) (JU (Bm (Bk6 (Aq f_d (Aq f_d (Aq f_d (Aq f_d (Aq f_d (Aq (Ta (gx 4 rfl)) Dg))))))) (Bm G8 (Bm G8 (Bm G8 (Bm G8 JW))))) rfl) (As hwf) h
   refine AT eh ?_
   refine Ag rfl (BM (e_t (Ai rfl (Ad rfl h7)))) (Cn (e_t (Ai rfl (Ad rfl h7))) (gx 2 rfl) (Nat.le_of_ble_eq_true rfl) (by rfl) (Aa ?_))
   refine AT (em rfl eh) ?_
   obtain ⟨v18, hc_v18, hr⟩ := bind_some hr
   refine F9 (Az (e_t eh) (Cw (Aq f_d (Aq f_d (Aq f_d (Aq f_d (Aq f_d (Aq (Ta (gx 4 rfl)) Dg))))))) A1) (B2 (e_t eh) (by rfl) F1) (fun st2 => BU3 n (⟨p0.Name, p0.From, p0.At, p0.Fuel, p0.Params, v8⟩ : TP) hc_v18 ⟨rfl, rfl⟩) ?_
   refine Ag (R := []) rfl rfl (Am (e_t (Ac rfl eh)) (e_t eh) (Aa ?_))
   refine Ag (R := []) rfl rfl (Ab (e_t eh) (Aa ?_))
   refine CC eh hr (fun hr => ?_) (fun hr => ?_)
   rotate_left
   · refine Av eh (Av (em rfl eh) (Av (Ac rfl eh) ?_))
     refine Ag (R := []) rfl rfl (An (e_t (Ac rfl (em rfl eh))) e_c (Aa ?_))
     refine KW (e_t (Ai rfl (Ak rfl (Ad rfl (em rfl h2))))) (gx 1 rfl) (e_t (Ai rfl (Ad rfl eh))) Bi rfl (Nat.le_of_ble_eq_true rfl) (by rfl) (cells' := [(.d (.str p0.Name)), (.d (.str p0.From)), (.d (.str p0.At)), (.d (.int .i64 p0.Fuel)), (.d (.sl (List.map T_api_Column.row p0.Params))), (.own (st.length + 4) w7)]) (by rfl) (BD rfl _ _) ?_
     refine Ag (R := []) rfl rfl (Ab (e_t (Ai rfl (Ac rfl (em rfl eh)))) (Aa ?_))
     refine Ag (R := []) rfl rfl (Ab (e_t (Ai rfl (Ac rfl (em rfl eh)))) (Aa ?_))
     refine Ag (R := []) rfl rfl (Ab (e_t (Ac rfl eh)) (Aa ?_))
     refine Ag (R := []) rfl rfl (Ab e_c (Aa ?_))
     refine BO ?_
     refine ⟨by simp [Ch, okPairs, BP, FY], ?_⟩
     refine Ae (AH ?_)
     cases hr
     exact A5 (Iz (Ai rfl (Ai rfl (em rfl h2))) (gx 1 rfl) (Nat.le_of_ble_eq_true rfl) (by rfl) (AE (Ac rfl (em rfl eh)) (AE (Ac rfl eh) (AE (em rfl eh) (AE eh AG))))) (JU (Bm (Bk6 (Aq f_d (Aq f_d (Aq f_d (Aq f_d (Aq f_d (Aq (Ta (gx 4 rfl)) Dg))))))) (Bm G8 (Bm G8 (Bm G8 (Bm G8 JW))))) rfl) (As hwf) h
   refine AT eh ?_
   refine Ag (R := []) rfl rfl (AA (e_t (Ai rfl (Ak rfl (em rfl h7)))) (by rfl) (Aa ?_))
   refine AT (em rfl eh) ?_
   refine Ag rfl (BM (e_t eh)) (Ao (e_t eh) (gx 2 rfl) (by rfl) (Aa ?_))
   refine AT (Ac rfl eh) ?_
   obtain ⟨v19, hc_v19, hr⟩ := bind_some hr
   refine F9 (Az (e_t eh) (Bw1 (gx 4 rfl)) A1) (B2 (e_t eh) (by rfl) F1) (fun st2 => BR9 n v8 hc_v19 ⟨rfl, rfl⟩) ?_
   refine Ag (R := []) rfl rfl (Am (e_t (Ac rfl (em rfl eh))) (e_t eh) (Aa ?_))
   refine KW (e_t (Ai rfl (Ak rfl (Ad rfl (em rfl h2))))) (gx 1 rfl) (e_t (Ai rfl (Ad rfl eh))) Bi rfl (Nat.le_of_ble_eq_true rfl) (by rfl) (cells' := [(.d (.str p0.Name)), (.d (.str p0.From)), (.d (.str p0.At)), (.d (.int .i64 p0.Fuel)), (.d (.sl (List.map T_api_Column.row p0.Params))), (.own (st.length + 4) w7)]) (by rfl) (BD rfl _ _) ?_
   refine Ag (R := []) rfl rfl (Ab (e_t (Ai rfl (Ac rfl (em rfl eh)))) (Aa ?_))
   refine Ag (R := []) rfl rfl (Ab (e_t (Ai rfl (Ac rfl (em rfl eh)))) (Aa ?_))
   refine Ag (R := []) rfl rfl (Ab (e_t (Ac rfl eh)) (Aa ?_))
   refine Ag (R := []) rfl rfl (Ab e_c (Aa ?_))
   refine BO ?_
   refine ⟨by simp [Ch, okPairs, BP, FY], ?_⟩
   refine Ae (AH ?_)
   cases hr
   exact A5 (Iz (Ai rfl (Ai rfl (em rfl h2))) (gx 1 rfl) (Nat.le_of_ble_eq_true rfl) (by rfl) (AE (Ac rfl (em rfl eh)) (AE (Ac rfl eh) (AE (em rfl eh) (AE eh AG))))) (JU (Bm (Bk6 (Aq f_d (Aq f_d (Aq f_d (Aq f_d (Aq f_d (Aq (Ta (gx 4 rfl)) Dg))))))) (Bm G8 (Bm G8 (Bm G8 (Bm G8 JW))))) rfl) (As hwf) h
end Go.Ax
