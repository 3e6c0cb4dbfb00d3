import Derived.Test.YtojkpenjeglipaaIYT
import Derived.Test.YtojkpenjeglipaaICVX
import Derived.Test.YtojkpenjeglipaaICPrim
import Derived.Test.YtojkpenjeglipaaIYD1
import Derived.Test.YtojkpenjeglipaaIYD7
import Derived.Test.YtojkpenjeglipaaIYD10
import Derived.Test.YtojkpenjeglipaaIYD17
set_option linter.unusedVariables false
set_option linter.unusedSimpArgs false
namespace Go.Ax
attribute [local irreducible] BL ER FD Bf CF Fz B6 KZ HX upd ev u0 Dt frz A6 EB mmD bnd BV Ft Do CO GU Ht G2 cutV I1 Cv
variable {st : List Content}
def La (p0 : (List ByteArray)) (p1 : ByteArray) (v4 : Int) : Option (List ByteArray) :=
 ((UJ p0 (0 : Int) v4).bind fun v6 => ((Gq 16 ([] : List ByteArray) v6).bind fun v7 => ((Gq 16 v7 ([p1])).bind fun v8 => ((UJ p0 v4 (p0.length : Int)).bind fun v9 => ((Gq 16 v8 v9).bind fun v10 => some v10)))))
def K8 (p0 : (List ByteArray)) (p1 : ByteArray) (v4 : Int) : Option (List ByteArray) :=
 (bif (decide (v4 < (p0.length : Int))) then ((Dh p0 v4).bind fun v5 => (bif (decide (v5 = p1)) then some p0 else (La p0 p1 v4))) else (La p0 p1 v4))
def OL (p0 : (List ByteArray)) (p1 : ByteArray) (q0 : Int → Option (List ByteArray)) (v2 : Int) : Option (List ByteArray) :=
 (bif (decide (v2 < (p0.length : Int))) then ((Dh p0 v2).bind fun v3 => (bif (ltS v3 p1) then q0 (IntKind.wrap .i64 (v2 + (1 : Int))) else (K8 p0 p1 v2))) else (K8 p0 p1 v2))
def G9 (p0 : (List ByteArray)) (p1 : ByteArray) : Nat → Int → Option (List ByteArray)
 | 0, _ => none
 | m + 1, v2 => OL p0 p1 (G9 p0 p1 m) v2
def Yo (n : Nat) (p0 : (List ByteArray)) (p1 : ByteArray) : Option (List ByteArray) :=
 (G9 p0 p1 n (0 : Int))
set_option maxRecDepth 100000 in
set_option maxHeartbeats 4000000 in
theorem AP0 (n : Nat) (p0 : (List ByteArray)) (p1 : ByteArray) {r : (List ByteArray)} (hr : Yo n p0 p1 = some r) {K : PV → List Content → Prop} (h : K (.d (.sl (List.map rS r))) st) : Aw PR Av4 [(.d (.sl (List.map rS p0))), (.d (.str p1))] st K := by
 refine Aw.of AQ9 (Nat.le_of_ble_eq_true rfl) fun hwf => ?_
 rw [DX]
 refine AQ ?_
 unfold AJ5
 rw [Yo] at hr
 refine Al (Af ?_)
 unfold Ac6
 refine Ab e_c (Aa (Ae (Al (Af ?_))))
 unfold Ad3
 refine Ab e_c (Aa (Ae ?_))
 refine BD (fun f st' => ∃ (v4 : Int), K8 p0 p1 v4 = some r ∧ f 0 = (.d (.sl (List.map rS p0))) ∧ f 1 = (.d (.str p1)) ∧ f 5 = (.d (.int .i64 v4)) ∧ st' = st ++ []) ?_ ?_
 · refine AX ?_
   refine Ca (fun m f st' => ∃ (v2 : Int), G9 p0 p1 m v2 = some r ∧ f 0 = (.d (.sl (List.map rS p0))) ∧ f 1 = (.d (.str p1)) ∧ f 5 = (.d (.int .i64 v2)) ∧ st' = st ++ []) n (Ghost.refl _) ⟨(0 : Int), hr, (Ac rfl eh), (Ac rfl (em rfl eh)), eh, rfl⟩ ?_
   rintro m f st' ⟨v2, hr, h0, h1, h5, rfl⟩
   cases m with
   | zero => cases hr
   | succ m_0 =>
     rw [G9] at hr
     generalize hrec_0 : G9 p0 p1 m_0 = q0 at hr
     rw [OL] at hr
     unfold Ad6
     refine Al (Al (Af ?_))
     unfold Af5
     refine Ab (e_t h5) (Ab (e_t (em rfl h0)) ?_)
     refine Bh (row := rS) (AL (e_t eh) Bq) ?_
     refine Ar (e_t (Ac rfl eh)) (e_t eh) (CL ?_)
     refine Ab (e_t eh) ?_
     refine Au eh hr (fun hr => ?_) (fun hr => ?_)
     rotate_left
     · refine Ah eh (Ah (em rfl eh) (Ah (Ac rfl eh) (Ah (Ac rfl (em rfl eh)) (Ah (Ad rfl eh) (Ah (Ad rfl (em rfl eh)) ?_)))))
       refine Ao (e_t (Ad rfl (Ac rfl eh))) e_c (Aa (Ae ?_))
       refine EP (e_t eh) ?_
       refine CP ?_
       refine A0 ?_
       refine A0 ?_
       refine Ea ?_
       refine Ae ?_
       exact ⟨v2, hr, (Ak rfl (Ad rfl (em rfl h0))), (Ak rfl (Ad rfl (em rfl h1))), (Ak rfl (Ad rfl (em rfl h5))), rfl⟩
     refine Aj eh (Ab (e_t (Ad rfl (Ac rfl h0))) (Aj (em rfl eh) (Ab (e_t (Ad rfl (Ac rfl (em rfl h5)))) (Aj (Ac rfl eh) ?_))))
     refine Bt (row := rS) (AL (e_t (em rfl eh)) Bq) (e_t eh) hr (fun _ => rfl) (fun _ => rfl) (fun v3 hr => ?_)
     refine Aj (Ac rfl (em rfl eh)) ?_
     refine BG (e_t eh) (by exact rfl) ?_
     refine Aj (Ad rfl eh) (Ab (e_t (Ak rfl (Ac rfl h1))) (Aj (Ad rfl (em rfl eh)) ?_))
     refine Ar (e_t (em rfl eh)) (e_t eh) (AQ4 ?_)
     refine An (e_t (Ad rfl (Ac rfl eh))) (e_t eh) (Aa (Ae ?_))
     refine AC (e_t eh) hr (fun hr => ?_) (fun hr => ?_)
     rotate_left
     · refine CP ?_
       refine A0 ?_
       refine A0 ?_
       refine Ea ?_
       refine Ae ?_
       exact ⟨v2, hr, (Ak rfl (Ad rfl (em rfl h0))), (Ak rfl (Ad rfl (em rfl h1))), (Ak rfl (Ad rfl (em rfl h5))), rfl⟩
     refine AN (Ae ?_)
     refine AX ?_
     refine Af ?_
     unfold Ae3
     refine Ab (e_t (Ak rfl (Ad rfl (em rfl h5)))) ?_
     refine Ar (e_t eh) e_c (BX ?_)
     refine Ab (e_t eh) (Aa ?_)
     refine BA ?_
     refine Ae ?_
     exact ⟨m_0, _, Nat.lt_succ_self m_0, Ghost.refl _, (IntKind.wrap .i64 (v2 + (1 : Int))), (by rw [hrec_0]; exact hr), (Ak rfl (Ad rfl (Ad rfl h0))), (Ak rfl (Ad rfl (Ad rfl h1))), eh, rfl⟩
 rintro f st' ⟨v4, hr, h0, h1, h5, rfl⟩
 rw [K8] at hr
 refine BD (fun f st' => La p0 p1 v4 = some r ∧ f 0 = (.d (.sl (List.map rS p0))) ∧ f 1 = (.d (.str p1)) ∧ f 5 = (.d (.int .i64 v4)) ∧ st' = st ++ []) ?_ ?_
 rotate_left
 · rintro f st' ⟨hr, h0, h1, h5, rfl⟩
   rw [La] at hr
   refine Al (Af ?_)
   unfold Af0
   refine Ab e_c (Aa (Ae (Al (Af ?_))))
   unfold Ad8
   refine Ab (e_t eh) (Ab (e_t (Ac rfl h0)) (Ab (e_t (Ac rfl (em rfl h5))) ?_))
   refine T5 (row := rS) (AL (e_t (em rfl eh)) Bq) (fun _ => rfl) (fun _ => rfl) bd0 (bd1 (e_t eh)) hr (fun v6 hr => ?_)
   refine AL1 (k := 0) (row := rS) rfl rfl (AL (e_t eh) Bq) (fun _ => rfl) (fun _ => rfl) (e_t (Ac rfl (em rfl eh))) hr (fun v7 hr => ?_)
   refine Ab (e_t eh) (Aa (Ae (Al (Af ?_))))
   unfold Ad2
   refine Ab (e_t eh) (Ab (e_t (Ad rfl (Ad rfl h1))) ?_)
   refine CX (rows := List.map rS [p1]) ((AE (e_t eh) AZ (As f_d AK) rfl DV)) ?_
   refine Hg (row := rS) (AL (e_t eh) KJ) (fun _ => rfl) (fun _ => rfl) (e_t (Ac rfl eh)) ((Am rfl 0).trans rfl) (fun _ => (Bk rfl _ _)) hr (fun v8 hr => ?_)
   refine Ab (e_t eh) (Aa (Ae (Al (Af ?_))))
   unfold Zk
   refine Ab (e_t eh) (Ab (e_t (Ak rfl (Ad rfl (em rfl h0)))) (Ab (e_t (Ak rfl (Ad rfl (Ac rfl h5)))) ?_))
   refine T5 (row := rS) (AL (e_t (em rfl eh)) Bq) (fun _ => rfl) (fun _ => rfl) (bd1 (e_t eh)) bd0 hr (fun v9 hr => ?_)
   refine Hg (row := rS) (AL (e_t eh) Bq) (fun _ => rfl) (fun _ => rfl) (e_t (Ac rfl (em rfl eh))) ((Am rfl 0).trans rfl) (fun _ => (Bk rfl _ _)) hr (fun v10 hr => ?_)
   refine Ab (e_t eh) (Aa (Ae (AI ?_)))
   cases hr
   exact A7 (AF eh AH) (AM (Yv ((Am rfl 0).trans rfl)) v_d) (Av hwf) h
 refine Al (Af ?_)
 unfold Ae1
 refine Ab (e_t h5) (Ab (e_t (em rfl h0)) ?_)
 refine Bh (row := rS) (AL (e_t eh) Bq) ?_
 refine Ar (e_t (Ac rfl eh)) (e_t eh) (CL ?_)
 refine Ab (e_t eh) ?_
 refine Au eh hr (fun hr => ?_) (fun hr => ?_)
 rotate_left
 · refine Ah eh (Ah (em rfl eh) (Ah (Ac rfl eh) (Ah (Ac rfl (em rfl eh)) (Ah (Ad rfl eh) (Ah (Ad rfl (em rfl eh)) ?_)))))
   refine Ao (e_t (Ad rfl (Ac rfl eh))) e_c (Aa (Ae ?_))
   refine EP (e_t eh) ?_
   refine AN (Ae ?_)
   exact ⟨hr, (Ak rfl (Ad rfl (em rfl h0))), (Ak rfl (Ad rfl (em rfl h1))), (Ak rfl (Ad rfl (em rfl h5))), rfl⟩
 refine Aj eh (Ab (e_t (Ad rfl (Ac rfl h0))) (Aj (em rfl eh) (Ab (e_t (Ad rfl (Ac rfl (em rfl h5)))) (Aj (Ac rfl eh) ?_))))
 refine Bt (row := rS) (AL (e_t (em rfl eh)) Bq) (e_t eh) hr (fun _ => rfl) (fun _ => rfl) (fun v5 hr => ?_)
 refine Aj (Ac rfl (em rfl eh)) ?_
 refine BG (e_t eh) (by exact rfl) ?_
 refine Aj (Ad rfl eh) (Ab (e_t (Ak rfl (Ac rfl h1))) (Aj (Ad rfl (em rfl eh)) ?_))
 refine Ar (e_t (em rfl eh)) (e_t eh) (Db ?_)
 refine An (e_t (Ad rfl (Ac rfl eh))) (e_t eh) (Aa (Ae ?_))
 refine AC (e_t eh) hr (fun hr => ?_) (fun hr => ?_)
 rotate_left
 · refine AN (Ae ?_)
   exact ⟨hr, (Ak rfl (Ad rfl (em rfl h0))), (Ak rfl (Ad rfl (em rfl h1))), (Ak rfl (Ad rfl (em rfl h5))), rfl⟩
 refine Al (Af ?_)
 unfold Ac9
 refine Ab (e_t (Ak rfl (Ad rfl (em rfl h0)))) (Ab (e_t eh) (Aa (Ae (AI (AA ?_)))))
 cases hr
 exact A7 (AF eh AH) (AM AG v_d) (Av hwf) h
def Fq (n : Nat) (v9 : (Int × Int)) (v10 : (Int × Int)) (v18 : Bool) : Option Bool :=
 (bif v18 then (bif (decide (v10.2 ≤ v9.2)) then ((N9 n).bind fun v19 => some v19) else some false) else some false)
def Fo (n : Nat) (v2 : (TP × Int × Int × Bool × Bool)) (v8 : (List TS)) (v9 : (Int × Int)) (v10 : (Int × Int)) : Option Bool :=
 ((Kf n (⟨v2.1.Name, v2.1.From, v2.1.At, v2.1.Fuel, v2.1.Params, v8⟩ : TP)).bind fun v17 => (bif v17 then (Fq n v9 v10 (decide (v10.1 < v9.1))) else (Fq n v9 v10 false)))
def HZ (n : Nat) (v2 : (TP × Int × Int × Bool × Bool)) (v8 : (List TS)) (v9 : (Int × Int)) (v10 : (Int × Int)) (v11 : (List ByteArray)) (v12 : (List ByteArray)) (q0 : Int → Option Bool) (v13 : Int) : Option Bool :=
 (bif (decide (v13 < (v11.length : Int))) then ((Dh v11 v13).bind fun v14 => ((Yo n v12 v14).bind fun v15 => ((MT n v15 v12).bind fun v16 => (bif (!v16) then some false else q0 (IntKind.wrap .i64 (v13 + (1 : Int))))))) else (Fo n v2 v8 v9 v10))
def CG (n : Nat) (v2 : (TP × Int × Int × Bool × Bool)) (v8 : (List TS)) (v9 : (Int × Int)) (v10 : (Int × Int)) (v11 : (List ByteArray)) (v12 : (List ByteArray)) : Nat → Int → Option Bool
 | 0, _ => none
 | m + 1, v13 => HZ n v2 v8 v9 v10 v11 v12 (CG n v2 v8 v9 v10 v11 v12 m) v13
def C3 (p1 : Int) (n : Nat) (v2 : (TP × Int × Int × Bool × Bool)) (v3 : Bool) : Option Bool :=
 (bif v3 then ((N9 n).bind fun v4 => some v4) else ((VX (decide ((IntKind.wrap .u64 (v2.1.Body.length : Int)) ≠ 0))).bind fun _ => ((UJ v2.1.Body (0 : Int) (IntKind.wrap .i64 (Int.tmod (IntKind.wrap .u64 p1) (IntKind.wrap .u64 (v2.1.Body.length : Int))))).bind fun v5 => ((Gq 144 ([] : List TS) v5).bind fun v6 => ((UJ v2.1.Body (IntKind.wrap .i64 ((IntKind.wrap .i64 (Int.tmod (IntKind.wrap .u64 p1) (IntKind.wrap .u64 (v2.1.Body.length : Int)))) + (1 : Int))) (v2.1.Body.length : Int)).bind fun v7 => ((Gq 144 v6 v7).bind fun v8 => ((MU n (⟨v2.1.Name, v2.1.From, v2.1.At, v2.1.Fuel, v2.1.Params, v2.1.Body⟩ : TP)).bind fun v9 => ((MU n (⟨v2.1.Name, v2.1.From, v2.1.At, v2.1.Fuel, v2.1.Params, v8⟩ : TP)).bind fun v10 => ((JZ n (⟨v2.1.Name, v2.1.From, v2.1.At, v2.1.Fuel, v2.1.Params, v8⟩ : TP)).bind fun v11 => ((JZ n (⟨v2.1.Name, v2.1.From, v2.1.At, v2.1.Fuel, v2.1.Params, v2.1.Body⟩ : TP)).bind fun v12 => (CG n v2 v8 v9 v10 v11 v12 n (0 : Int))))))))))))
def CI (n : Nat) (p0 : LSay) (p1 : Int) : Option Bool :=
 ((Md n p0).bind fun v2 => (bif (!v2.2.2.2.2) then (C3 p1 n v2 true) else (bif (!v2.2.2.2.1) then (C3 p1 n v2 true) else (C3 p1 n v2 (decide ((v2.1.Body.length : Int) = (0 : Int)))))))
set_option maxRecDepth 100000 in
set_option maxHeartbeats 4000000 in
theorem Xi (n : Nat) (p0 : LSay) (p1 : Int) {r : Bool} (hr : CI n p0 p1 = some r) {K : PV → List Content → Prop} (h : K (.d (.bool r)) st) : Aw PR PC [(.agg [(.d (.str p0.Name)), (.d (.str p0.From)), (.d (.str p0.At)), (.d (.int .i64 p0.Fuel)), (.d (.sl (List.map T_api_Column.row p0.Params))), (.d (.sl (List.map TLeaf.row p0.Leaves))), (.d (.sl (List.map TKnot.row p0.Knots))), (.d (.sl (List.map (rI .i64) p0.Body)))]), (.d (.int .i64 p1))] st K := by
 refine Aw.of Xf (Nat.le_of_ble_eq_true rfl) fun hwf => ?_
 rw [DX]
 refine AQ ?_
 unfold Pi
 rw [CI] at hr
 refine Al (Af ?_)
 unfold Ln
 refine Gw (k := 0) rfl rfl (e_t eh) Bg (by exact rfl) ?_
 refine Ab e_c (Aa (Ae (Al (Af ?_))))
 unfold Le
 refine BF (e_t (em rfl eh)) ((Am rfl 0).trans rfl) (Nat.le_of_ble_eq_true rfl) (by exact rfl) ?_
 obtain ⟨v2, hc_v2, hr⟩ := bind_some hr
 refine AP (Ay (e_t eh) (BP (Aq f_d (Aq f_d (Aq f_d (Aq f_d (Aq f_d (Aq f_d (Aq f_d (Aq f_d Cw))))))))) AR) ?_
 refine AR2 n p0 hc_v2 ?_
 refine Ab (e_t eh) ?_
 refine GZ (e_t eh) (by exact rfl) ?_
 refine GZ (e_t (em rfl eh)) (by exact rfl) ?_
 refine GZ (e_t (Ac rfl eh)) (by exact rfl) ?_
 refine GZ (e_t (Ac rfl (em rfl eh))) (by exact rfl) ?_
 refine GZ (e_t (Ad rfl eh)) (by exact rfl) ?_
 refine Ci (k := 1) rfl rfl ?_
 refine Bl (e_t eh) ((Am rfl 1).trans rfl) (e_t (Ad rfl (em rfl eh))) Bg rfl (Nat.le_of_ble_eq_true rfl) (by exact rfl) (cells' := [(.d (.str v2.1.Name)), (.d (.str v2.1.From)), (.d (.str v2.1.At)), (.d (.int .i64 v2.1.Fuel)), (.d (.sl (List.map T_api_Column.row v2.1.Params))), (.d (.sl (List.map TS.row v2.1.Body)))]) (by exact rfl) (Bk rfl _ _) ?_
 refine Ab (e_t (Ad rfl eh)) (Ab (e_t (Ad rfl eh)) (Ab (e_t (Ad rfl eh)) (Ab (e_t (Ad rfl eh)) (Aa (Ae ?_)))))
 refine Al ?_
 refine BD (fun f st' => ∃ (v3 : Bool), C3 p1 n v2 v3 = some r ∧ f 1 = (.d (.int .i64 p1)) ∧ f 5 = (.ptr (st.length + 1) 0) ∧ f 38 = (.d (.bool v3)) ∧ st' = st ++ [(.box [(.d (.str p0.Name)), (.d (.str p0.From)), (.d (.str p0.At)), (.d (.int .i64 p0.Fuel)), (.d (.sl (List.map T_api_Column.row p0.Params))), (.d (.sl (List.map TLeaf.row p0.Leaves))), (.d (.sl (List.map TKnot.row p0.Knots))), (.d (.sl (List.map (rI .i64) p0.Body)))]), (.box [(.d (.str v2.1.Name)), (.d (.str v2.1.From)), (.d (.str v2.1.At)), (.d (.int .i64 v2.1.Fuel)), (.d (.sl (List.map T_api_Column.row v2.1.Params))), (.d (.sl (List.map TS.row v2.1.Body)))])]) ?_ ?_
 · refine Af ?_
   unfold Mj
   refine Bo ?_
   unfold Kg
   refine Ab (e_t eh) (CS (e_t eh) (Ab (e_t eh) ?_))
   refine Au eh hr (fun hr => ?_) (fun hr => ?_)
   · refine Ah eh (Ah (em rfl eh) (An (e_t (Ac rfl eh)) e_c (Aa ?_)))
     unfold Hs
     refine Ab (e_t eh) (Ah eh (Ah (em rfl eh) (Ah (Ac rfl eh) (Ah (Ac rfl (em rfl eh)) (An (e_t (Ad rfl eh)) e_c ?_)))))
     refine Aa (Ae ?_)
     exact ⟨true, hr, (Ai rfl (Ak rfl (Ad rfl (em rfl eh)))), (Ai rfl (em rfl eh)), eh, rfl⟩
   refine Aj eh (Ab (e_t (Ad rfl (em rfl eh))) (Aj (em rfl eh) (CS (e_t eh) (Ao (e_t (Ac rfl eh)) (e_t eh) (Aa ?_)))))
   unfold Hs
   refine Ab (e_t eh) ?_
   refine Au eh hr (fun hr => ?_) (fun hr => ?_)
   · refine Ah eh (Ah (em rfl eh) (Ah (Ac rfl eh) (Ah (Ac rfl (em rfl eh)) (An (e_t (Ad rfl eh)) e_c (Aa ?_)))))
     refine Ae ?_
     exact ⟨true, hr, (Ai rfl (Ak rfl (Ad rfl (Ac rfl eh)))), (Ai rfl (Ac rfl eh)), eh, rfl⟩
   refine Aj eh ?_
   refine AB (e_t (Ak rfl (Ad rfl (em rfl eh)))) (by exact rfl) ?_
   refine Aj (em rfl eh) ?_
   refine Ap (e_t eh) ((Am rfl 1).trans rfl) (by exact rfl) ?_
   refine Aj (Ac rfl eh) ?_
   refine Bh (row := TS.row) (AL (e_t eh) Bq) ?_
   refine Aj (Ac rfl (em rfl eh)) ?_
   refine Ar (e_t eh) e_c (BZ ?_)
   refine Ao (e_t (Ad rfl eh)) (e_t eh) (Aa (Ae ?_))
   exact ⟨(decide ((v2.1.Body.length : Int) = (0 : Int))), hr, (Ai rfl (Ak rfl (Ad rfl (Ac rfl eh)))), (Ai rfl (Ac rfl eh)), eh, rfl⟩
 rintro f st' ⟨v3, hr, h1, h5, h38, rfl⟩
 rw [C3] at hr
 refine AC (e_t h38) hr (fun hr => ?_) (fun hr => ?_)
 · refine Al (Af ?_)
   unfold Mi
   obtain ⟨v4, hc_v4, hr⟩ := bind_some hr
   refine AP AR ?_
   refine Ao7 n hc_v4 ?_
   refine Ab (e_t eh) (Aa (Ae (AI (AA ?_))))
   cases hr
   exact A7 (AF eh AH) (AM AG v_d) (Av hwf) h
 refine AN (Ae (Al (Af ?_)))
 unfold Li
 refine Ab (e_t h1) ?_
 refine KV (e_t eh) ?_
 refine AB (e_t (Ac rfl h5)) (by exact rfl) ?_
 refine Ap (e_t eh) ((Am rfl 1).trans rfl) (by exact rfl) ?_
 refine Bh (row := TS.row) (AL (e_t eh) Bq) ?_
 refine KV (e_t eh) ?_
 refine Ar (e_t (Ad rfl eh)) (e_t eh) (Ax1 hr (fun hr => ?_))
 refine KV (e_t eh) ?_
 refine Ab (e_t eh) (Aa (Ae (Al (Af ?_))))
 unfold Lm
 refine BF (e_t (Ak rfl (em rfl h5))) ((Am rfl 1).trans rfl) (Nat.le_of_ble_eq_true rfl) (by exact rfl) ?_
 refine Ci (k := 2) rfl rfl ?_
 refine Bl (e_t eh) ((Am rfl 2).trans rfl) (e_t (em rfl eh)) Bg rfl (Nat.le_of_ble_eq_true rfl) (by exact rfl) (cells' := [(.d (.str v2.1.Name)), (.d (.str v2.1.From)), (.d (.str v2.1.At)), (.d (.int .i64 v2.1.Fuel)), (.d (.sl (List.map T_api_Column.row v2.1.Params))), (.d (.sl (List.map TS.row v2.1.Body)))]) (by exact rfl) (Bk rfl _ _) ?_
 refine Aa (Ae (Al ?_))
 refine Hb (k := 3) rfl rfl ?_
 unfold Lr
 refine Ag rfl Ai1 (CX (rows := List.map TS.row []) (JU (by simp only [List.map, TS.row_eq]) DV) (Aa ?_))
 refine Ag (R := []) rfl rfl (AB (e_t (Ak rfl (Ad rfl h5))) (by exact rfl) (Aa ?_))
 refine Ag rfl (Bz (e_t eh)) (Ap (e_t eh) ((Am rfl 1).trans rfl) (by exact rfl) (Aa ?_))
 refine Ag (R := []) rfl rfl (Ab (e_t (Ad rfl (em rfl eh))) (Aa ?_))
 refine Ag (R := []) rfl (JW (e_t (em rfl eh))) (T5 (row := TS.row) (AL (e_t (em rfl eh)) Bq) TS.row_eq (fun _ => rfl) bd0 (bd1 (e_t eh)) hr (fun v5 hr => Aa ?_))
 refine AL9 (row := TS.row) rfl (by exact rfl) (e_t eh) Bq TS.row_eq (fun _ => rfl) (e_t (Ad rfl eh)) hr (fun v6 hr => ?_)
 refine Ag (R := []) rfl rfl (AB (e_t (Ai rfl (em rfl h5))) (by exact rfl) (Aa ?_))
 refine Ag rfl (Bz (e_t eh)) (Ap (e_t eh) ((Am rfl 1).trans rfl) (by exact rfl) (Aa ?_))
 refine Ag (R := []) rfl rfl (Ab (e_t (Ak rfl (Ac rfl eh))) (Aa ?_))
 refine Ag (R := []) rfl rfl (Ar (e_t eh) e_c (BX (Aa ?_)))
 refine Ag (R := []) rfl (JW (e_t (Ac rfl eh))) (T5 (row := TS.row) (AL (e_t (Ac rfl eh)) Bq) TS.row_eq (fun _ => rfl) (bd1 (e_t eh)) bd0 hr (fun v7 hr => Aa ?_))
 refine Ay5 (row := TS.row) (e_t eh) Bq TS.row_eq (fun _ => rfl) (e_t (Ad rfl (em rfl eh))) ((Am rfl 3).trans rfl) (fun _ => (Bk rfl _ _)) hr (fun v8 hr => ?_)
 refine Ag (R := []) rfl rfl (AB (e_t (Ak rfl (Ad rfl eh))) (by exact rfl) (Aa ?_))
 refine Iu (e_t eh) ((Am rfl 2).trans rfl) (e_t (em rfl eh)) rfl rfl (Nat.le_of_ble_eq_true rfl) (by exact rfl) (cells' := [(.d (.str v2.1.Name)), (.d (.str v2.1.From)), (.d (.str v2.1.At)), (.d (.int .i64 v2.1.Fuel)), (.d (.sl (List.map T_api_Column.row v2.1.Params))), (.own (st.length + 3) 2)]) (by exact rfl) (Bk rfl _ _) ?_
 refine BC ?_
 refine ⟨by simp [BV, okPairs, BS, FE], ?_⟩
 refine Ae (Al (Af ?_))
 unfold LY
 refine BF (e_t (Ai rfl (Ad rfl (Ad rfl h5)))) ((Am rfl 1).trans rfl) (Nat.le_of_ble_eq_true rfl) (by exact rfl) ?_
 obtain ⟨v9, hc_v9, hr⟩ := bind_some hr
 refine AP (Ay (e_t eh) (BP (Aq f_d (Aq f_d (Aq f_d (Aq f_d (Aq f_d (Aq f_d Cw))))))) AR) ?_
 refine Aj7 n (⟨v2.1.Name, v2.1.From, v2.1.At, v2.1.Fuel, v2.1.Params, v2.1.Body⟩ : TP) hc_v9 ?_
 refine Ab (e_t eh) ?_
 refine GZ (e_t eh) (by exact rfl) ?_
 refine GZ (e_t (em rfl eh)) (by exact rfl) ?_
 refine Ab (e_t (em rfl eh)) (Ab (e_t (em rfl eh)) (Aa (Ae (Al (Af ?_)))))
 unfold LH
 refine BF (e_t (Ai rfl (Ad rfl eh))) ((Am rfl 2).trans rfl) (Nat.le_of_ble_eq_true rfl) (by exact rfl) ?_
 obtain ⟨v10, hc_v10, hr⟩ := bind_some hr
 refine AP (Ay (e_t eh) (BP (Aq f_d (Aq f_d (Aq f_d (Aq f_d (Aq f_d (Aq (JB ((Am rfl 3).trans rfl)) Cw))))))) AR) ?_
 refine Aj7 n (⟨v2.1.Name, v2.1.From, v2.1.At, v2.1.Fuel, v2.1.Params, v8⟩ : TP) hc_v10 ?_
 refine Ab (e_t eh) ?_
 refine GZ (e_t eh) (by exact rfl) ?_
 refine GZ (e_t (em rfl eh)) (by exact rfl) ?_
 refine Ab (e_t (em rfl eh)) (Ab (e_t (em rfl eh)) (Aa (Ae (Al (Af ?_)))))
 unfold LZ
 refine BF (e_t (Ai rfl (Ak rfl (Ac rfl (em rfl eh))))) ((Am rfl 2).trans rfl) (Nat.le_of_ble_eq_true rfl) (by exact rfl) ?_
 obtain ⟨v11, hc_v11, hr⟩ := bind_some hr
 refine AP (Ay (e_t eh) (BP (Aq f_d (Aq f_d (Aq f_d (Aq f_d (Aq f_d (Aq (JB ((Am rfl 3).trans rfl)) Cw))))))) AR) ?_
 refine YE n (⟨v2.1.Name, v2.1.From, v2.1.At, v2.1.Fuel, v2.1.Params, v8⟩ : TP) hc_v11 ?_
 refine Ab (e_t eh) (Aa (Ae (Al (Af ?_))))
 unfold KH
 refine BF (e_t (Ai rfl (Ai rfl (Ak rfl (em rfl h5))))) ((Am rfl 1).trans rfl) (Nat.le_of_ble_eq_true rfl) (by exact rfl) ?_
 obtain ⟨v12, hc_v12, hr⟩ := bind_some hr
 refine AP (Ay (e_t eh) (BP (Aq f_d (Aq f_d (Aq f_d (Aq f_d (Aq f_d (Aq f_d Cw))))))) AR) ?_
 refine YE n (⟨v2.1.Name, v2.1.From, v2.1.At, v2.1.Fuel, v2.1.Params, v2.1.Body⟩ : TP) hc_v12 ?_
 refine Ab (e_t eh) (Aa (Ae ?_))
 refine BD (fun f st' => Fo n v2 v8 v9 v10 = some r ∧ f 11 = (.ptr (st.length + 2) 0) ∧ f 12 = (.d (.int .i64 v9.1)) ∧ f 13 = (.d (.int .i64 v9.2)) ∧ f 14 = (.d (.int .i64 v10.1)) ∧ f 15 = (.d (.int .i64 v10.2)) ∧ st' = st ++ [(.box [(.d (.str p0.Name)), (.d (.str p0.From)), (.d (.str p0.At)), (.d (.int .i64 p0.Fuel)), (.d (.sl (List.map T_api_Column.row p0.Params))), (.d (.sl (List.map TLeaf.row p0.Leaves))), (.d (.sl (List.map TKnot.row p0.Knots))), (.d (.sl (List.map (rI .i64) p0.Body)))]), (.box [(.d (.str v2.1.Name)), (.d (.str v2.1.From)), (.d (.str v2.1.At)), (.d (.int .i64 v2.1.Fuel)), (.d (.sl (List.map T_api_Column.row v2.1.Params))), (.d (.sl (List.map TS.row v2.1.Body)))]), (.box [(.d (.str v2.1.Name)), (.d (.str v2.1.From)), (.d (.str v2.1.At)), (.d (.int .i64 v2.1.Fuel)), (.d (.sl (List.map T_api_Column.row v2.1.Params))), (.own (st.length + 3) 2)]), (.row AO 2 (List.map TS.row v8)), .fresh]) ?_ ?_
 · refine Al (Af ?_)
   unfold KK
   refine Ab e_c (Aa (Ae ?_))
   refine AX ?_
   refine Ca (fun m f st' => ∃ (v13 : Int), CG n v2 v8 v9 v10 v11 v12 m v13 = some r ∧ f 11 = (.ptr (st.length + 2) 0) ∧ f 12 = (.d (.int .i64 v9.1)) ∧ f 13 = (.d (.int .i64 v9.2)) ∧ f 14 = (.d (.int .i64 v10.1)) ∧ f 15 = (.d (.int .i64 v10.2)) ∧ f 16 = (.d (.sl (List.map rS v11))) ∧ f 17 = (.d (.sl (List.map rS v12))) ∧ f 18 = (.d (.int .i64 v13)) ∧ st' = st ++ [(.box [(.d (.str p0.Name)), (.d (.str p0.From)), (.d (.str p0.At)), (.d (.int .i64 p0.Fuel)), (.d (.sl (List.map T_api_Column.row p0.Params))), (.d (.sl (List.map TLeaf.row p0.Leaves))), (.d (.sl (List.map TKnot.row p0.Knots))), (.d (.sl (List.map (rI .i64) p0.Body)))]), (.box [(.d (.str v2.1.Name)), (.d (.str v2.1.From)), (.d (.str v2.1.At)), (.d (.int .i64 v2.1.Fuel)), (.d (.sl (List.map T_api_Column.row v2.1.Params))), (.d (.sl (List.map TS.row v2.1.Body)))]), (.box [(.d (.str v2.1.Name)), (.d (.str v2.1.From)), (.d (.str v2.1.At)), (.d (.int .i64 v2.1.Fuel)), (.d (.sl (List.map T_api_Column.row v2.1.Params))), (.own (st.length + 3) 2)]), (.row AO 2 (List.map TS.row v8)), .fresh]) n (Ghost.refl _) ⟨(0 : Int), hr, (Ai rfl (Ai rfl (Ac rfl eh))), (Ak rfl (Ad rfl (Ac rfl (em rfl eh)))), (Ak rfl (Ad rfl (Ac rfl eh))), (Ad rfl (Ad rfl eh)), (Ad rfl (Ac rfl (em rfl eh))), (Ad rfl eh), (em rfl eh), eh, rfl⟩ ?_
   rintro m f st' ⟨v13, hr, h11, h12, h13, h14, h15, h16, h17, h18, rfl⟩
   cases m with
   | zero => cases hr
   | succ m_0 =>
     rw [CG] at hr
     generalize hrec_0 : CG n v2 v8 v9 v10 v11 v12 m_0 = q0 at hr
     rw [HZ] at hr
     unfold KO
     refine Al (Al (Af ?_))
     unfold KN
     refine Ab (e_t h18) (Ab (e_t (em rfl h16)) ?_)
     refine Bh (row := rS) (AL (e_t eh) Bq) ?_
     refine Ar (e_t (Ac rfl eh)) (e_t eh) (CL ?_)
     refine Aa (Ae ?_)
     refine AC (e_t eh) hr (fun hr => ?_) (fun hr => ?_)
     rotate_left
     · refine CP ?_
       refine A0 ?_
       refine A0 ?_
       refine Ea ?_
       refine Ae ?_
       exact ⟨hr, (Ad rfl h11), (Ad rfl h12), (Ad rfl h13), (Ad rfl h14), (Ad rfl h15), rfl⟩
     refine AN (Ae (Al ?_))
     refine AX ?_
     refine Al (Af ?_)
     unfold KG
     refine Ab (e_t (Ad rfl h17)) (Ab (e_t (Ad rfl (em rfl h16))) (Ab (e_t (Ad rfl (Ac rfl h18))) ?_))
     refine Bt (row := rS) (AL (e_t (em rfl eh)) Bq) (e_t eh) hr (fun _ => rfl) (fun _ => rfl) (fun v14 hr => ?_)
     refine BG (e_t eh) (by exact rfl) ?_
     obtain ⟨v15, hc_v15, hr⟩ := bind_some hr
     refine AP (Ay (e_t (Ad rfl eh)) AG (Ay (e_t eh) AG AR)) ?_
     refine AP0 n v12 v14 hc_v15 ?_
     refine Ab (e_t (Ak rfl (Ac rfl h17))) ?_
     obtain ⟨v16, hc_v16, hr⟩ := bind_some hr
     refine AP (Ay (e_t (em rfl eh)) AG (Ay (e_t eh) AG AR)) ?_
     refine Ag8 n v15 v12 hc_v16 ?_
     refine CS (e_t eh) (Aa (Ae ?_))
     refine AC (e_t eh) hr (fun hr => ?_) (fun hr => ?_)
     rotate_left
     · refine AN ?_
       refine BA ?_
       refine Ae (Af ?_)
       unfold KI
       refine Ab (e_t (Ak rfl (Ad rfl (em rfl h18)))) ?_
       refine Ar (e_t eh) e_c (BX ?_)
       refine Ab (e_t eh) (Aa (Ae ?_))
       exact ⟨m_0, _, Nat.lt_succ_self m_0, Ghost.refl _, (IntKind.wrap .i64 (v13 + (1 : Int))), (by rw [hrec_0]; exact hr), (Ak rfl (Ad rfl (Ad rfl h11))), (Ak rfl (Ad rfl (Ad rfl h12))), (Ak rfl (Ad rfl (Ad rfl h13))), (Ak rfl (Ad rfl (Ad rfl h14))), (Ak rfl (Ad rfl (Ad rfl h15))), (Ak rfl (Ad rfl (Ad rfl h16))), (Ak rfl (Ad rfl (Ad rfl h17))), eh, rfl⟩
     refine Al (Af ?_)
     unfold KE
     refine Ab e_c (Aa (Ae (AI ?_)))
     refine BE ?_
     refine AA (AA ?_)
     refine BE ?_
     refine AA ?_
     cases hr
     exact A7 (AF eh AH) (AM AG v_d) (Av hwf) h
 rintro f st' ⟨hr, h11, h12, h13, h14, h15, rfl⟩
 rw [Fo] at hr
 refine Al (Af ?_)
 unfold KF
 refine Bb (fun f st' => ∃ (v18 : Bool), Fq n v9 v10 v18 = some r ∧ f 13 = (.d (.int .i64 v9.2)) ∧ f 15 = (.d (.int .i64 v10.2)) ∧ f 97 = (.d (.bool v18)) ∧ st' = st ++ [(.box [(.d (.str p0.Name)), (.d (.str p0.From)), (.d (.str p0.At)), (.d (.int .i64 p0.Fuel)), (.d (.sl (List.map T_api_Column.row p0.Params))), (.d (.sl (List.map TLeaf.row p0.Leaves))), (.d (.sl (List.map TKnot.row p0.Knots))), (.d (.sl (List.map (rI .i64) p0.Body)))]), (.box [(.d (.str v2.1.Name)), (.d (.str v2.1.From)), (.d (.str v2.1.At)), (.d (.int .i64 v2.1.Fuel)), (.d (.sl (List.map T_api_Column.row v2.1.Params))), (.d (.sl (List.map TS.row v2.1.Body)))]), (.box [(.d (.str v2.1.Name)), (.d (.str v2.1.From)), (.d (.str v2.1.At)), (.d (.int .i64 v2.1.Fuel)), (.d (.sl (List.map T_api_Column.row v2.1.Params))), (.own (st.length + 3) 2)]), (.row AO 2 (List.map TS.row v8)), .fresh]) ?_ ?_
 · unfold JD
   refine BF (e_t h11) ((Am rfl 2).trans rfl) (Nat.le_of_ble_eq_true rfl) (by exact rfl) ?_
   obtain ⟨v17, hc_v17, hr⟩ := bind_some hr
   refine AP (Ay (e_t eh) (BP (Aq f_d (Aq f_d (Aq f_d (Aq f_d (Aq f_d (Aq (JB ((Am rfl 3).trans rfl)) Cw))))))) AR) ?_
   refine X8 n (⟨v2.1.Name, v2.1.From, v2.1.At, v2.1.Fuel, v2.1.Params, v8⟩ : TP) hc_v17 ?_
   refine Ab (e_t eh) ?_
   refine Au eh hr (fun hr => ?_) (fun hr => ?_)
   rotate_left
   · refine Ah eh (Ah (em rfl eh) (Ah (Ac rfl eh) (Ao (e_t (Ac rfl (em rfl eh))) e_c (Aa ?_))))
     exact ⟨false, hr, (Ad rfl (Ad rfl h13)), (Ad rfl (Ad rfl h15)), eh, rfl⟩
   refine Aj eh (Ab (e_t (Ad rfl h14)) (Aj (em rfl eh) (Ab (e_t (Ad rfl (em rfl h12))) (Aj (Ac rfl eh) ?_))))
   refine Ar (e_t (em rfl eh)) (e_t eh) (CL ?_)
   refine An (e_t (Ac rfl (em rfl eh))) (e_t eh) (Aa ?_)
   exact ⟨(decide (v10.1 < v9.1)), hr, (Ad rfl (Ad rfl h13)), (Ad rfl (Ad rfl h15)), eh, rfl⟩
 rintro f st' ⟨v18, hr, h13, h15, h97, rfl⟩
 rw [Fq] at hr
 refine Bo ?_
 unfold JF
 refine Ab (e_t h97) ?_
 refine Au eh hr (fun hr => ?_) (fun hr => ?_)
 rotate_left
 · refine Ah eh (Ah (em rfl eh) (Ah (Ac rfl eh) (Ao (e_t (Ac rfl (em rfl eh))) e_c (Aa ?_))))
   refine Bo ?_
   unfold Hd
   refine Ab (e_t eh) (Ah eh (Ao (e_t (em rfl eh)) e_c (Aa ?_)))
   unfold Fy
   refine Ab (e_t eh) (Aa (Ae (AI ?_)))
   cases hr
   exact A7 (AF eh AH) (AM AG v_d) (Av hwf) h
 refine Aj eh (Ab (e_t (Ac rfl h15)) (Aj (em rfl eh) (Ab (e_t (Ac rfl (em rfl h13))) (Aj (Ac rfl eh) ?_))))
 refine Ar (e_t (em rfl eh)) (e_t eh) (JE ?_)
 refine An (e_t (Ac rfl (em rfl eh))) (e_t eh) (Aa ?_)
 refine Bo ?_
 unfold Hd
 refine Ab (e_t eh) ?_
 refine Au eh hr (fun hr => ?_) (fun hr => ?_)
 rotate_left
 · refine Ah eh (Ao (e_t (em rfl eh)) e_c (Aa ?_))
   unfold Fy
   refine Ab (e_t eh) (Aa (Ae (AI ?_)))
   cases hr
   exact A7 (AF eh AH) (AM AG v_d) (Av hwf) h
 refine Aj eh ?_
 obtain ⟨v19, hc_v19, hr⟩ := bind_some hr
 refine AP AR ?_
 refine Ao7 n hc_v19 ?_
 refine An (e_t (em rfl eh)) (e_t eh) (Aa ?_)
 unfold Fy
 refine Ab (e_t eh) (Aa (Ae (AI ?_)))
 cases hr
 exact A7 (AF eh AH) (AM AG v_d) (Av hwf) h
end Go.Ax
