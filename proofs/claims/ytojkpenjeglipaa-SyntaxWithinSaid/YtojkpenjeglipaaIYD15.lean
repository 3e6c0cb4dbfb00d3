import Derived.Test.YtojkpenjeglipaaIYT
import Derived.Test.YtojkpenjeglipaaICVX
import Derived.Test.YtojkpenjeglipaaICPrim
import Derived.Test.YtojkpenjeglipaaIYD11
set_option linter.unusedVariables false
set_option linter.unusedSimpArgs false
namespace Go.Ax
attribute [local irreducible] BL ER FD Bf CF Fz B6 KZ HX upd ev u0 Dt frz A6 EB mmD bnd BV Ft Do CO GU Ht G2 cutV I1 Cv
variable {st : List Content}
def Eb (p0 : TE) (s_RBuiltExpr : TE → Option Bool) (v13 : Int) (q0 : Int → Option Bool) (v18 : Int) : Option Bool :=
 (bif (decide (v18 < v13)) then ((Dh p0.Args v18).bind fun v19 => ((s_RBuiltExpr v19).bind fun v20 => (bif (!v20) then some false else q0 (IntKind.wrap .i64 (v18 + (1 : Int)))))) else some true)
def Bu (p0 : TE) (s_RBuiltExpr : TE → Option Bool) (v13 : Int) : Nat → Int → Option Bool
 | 0, _ => none
 | m + 1, v18 => Eb p0 s_RBuiltExpr v13 (Bu p0 s_RBuiltExpr v13 m) v18
def DU (p0 : TE) (s_RBuiltExpr : TE → Option Bool) (n : Nat) (v13 : Int) (v17 : Bool) : Option Bool :=
 (bif v17 then some false else (Bu p0 s_RBuiltExpr v13 n (0 : Int)))
def DL (p0 : TE) (s_RBuiltExpr : TE → Option Bool) (n : Nat) (v13 : Int) (v16 : Bool) : Option Bool :=
 (bif v16 then (DU p0 s_RBuiltExpr n v13 true) else (DU p0 s_RBuiltExpr n v13 (!decide ((p0.Args.length : Int) = v13))))
def DS (p0 : TE) (s_RBuiltExpr : TE → Option Bool) (n : Nat) (v12 : ByteArray) (v13 : Int) (v15 : Bool) : Option Bool :=
 (bif v15 then (DL p0 s_RBuiltExpr n v13 true) else (DL p0 s_RBuiltExpr n v13 (!decide (p0.Src = v12))))
def DR (p0 : TE) (s_RBuiltExpr : TE → Option Bool) (n : Nat) (v11 : ByteArray) (v12 : ByteArray) (v13 : Int) (v14 : Bool) : Option Bool :=
 (bif v14 then (DS p0 s_RBuiltExpr n v12 v13 true) else (DS p0 s_RBuiltExpr n v12 v13 (!decide (p0.Name = v11))))
def BJ (p0 : TE) (s_RBuiltExpr : TE → Option Bool) (n : Nat) (v9 : Int) (v10 : ByteArray) (v11 : ByteArray) (v12 : ByteArray) (v13 : Int) : Option Bool :=
 (bif (!decide (p0.N = v9)) then (DR p0 s_RBuiltExpr n v11 v12 v13 true) else (DR p0 s_RBuiltExpr n v11 v12 v13 (!decide (p0.S = v10))))
def DK (p0 : TE) (s_RBuiltExpr : TE → Option Bool) (n : Nat) (v5 : ByteArray) (v6 : Int) : Option Bool :=
 ((Dr n p0.Src).bind fun v7 => (bif (!v7) then some false else (BJ p0 s_RBuiltExpr n (0 : Int) v5 p0.Name p0.Src v6)))
def DN (p0 : TE) (s_RBuiltExpr : TE → Option Bool) (n : Nat) (v5 : ByteArray) : Option Bool :=
 (bif (decide ((5 : Int) < p0.Op)) then (bif (decide (p0.Op = (21 : Int))) then (DK p0 s_RBuiltExpr n v5 (1 : Int)) else (DK p0 s_RBuiltExpr n v5 (2 : Int))) else (BJ p0 s_RBuiltExpr n (0 : Int) v5 p0.Name (⟨#[]⟩ : ByteArray) (0 : Int)))
def DO (p0 : TE) (s_RBuiltExpr : TE → Option Bool) (n : Nat) (v8 : Bool) : Option Bool :=
 (bif v8 then (BJ p0 s_RBuiltExpr n (0 : Int) (⟨#[]⟩ : ByteArray) (⟨#[]⟩ : ByteArray) (⟨#[]⟩ : ByteArray) (2 : Int)) else (bif (decide (p0.Op = (19 : Int))) then (BJ p0 s_RBuiltExpr n (0 : Int) (⟨#[]⟩ : ByteArray) (⟨#[]⟩ : ByteArray) (⟨#[]⟩ : ByteArray) (1 : Int)) else (bif (decide (p0.Op = (20 : Int))) then (BJ p0 s_RBuiltExpr n (0 : Int) (⟨#[]⟩ : ByteArray) (⟨#[]⟩ : ByteArray) (⟨#[]⟩ : ByteArray) (1 : Int)) else some false)))
def Dl (p0 : TE) (s_RBuiltExpr : TE → Option Bool) (n : Nat) (v2 : Bool) : Option Bool :=
 (bif v2 then ((Dr n p0.Name).bind fun v3 => (bif (!v3) then some false else (bif (decide (p0.Op = (5 : Int))) then ((Dr n p0.S).bind fun v4 => (bif (!v4) then some false else (DN p0 s_RBuiltExpr n p0.S))) else (DN p0 s_RBuiltExpr n (⟨#[]⟩ : ByteArray))))) else (bif (decide ((6 : Int) ≤ p0.Op)) then (DO p0 s_RBuiltExpr n (decide (p0.Op ≤ (18 : Int)))) else (DO p0 s_RBuiltExpr n false)))
def DQ (p0 : TE) (s_RBuiltExpr : TE → Option Bool) (n : Nat) (v1 : Bool) : Option Bool :=
 (bif v1 then (Dl p0 s_RBuiltExpr n true) else (bif (decide ((21 : Int) ≤ p0.Op)) then (Dl p0 s_RBuiltExpr n (decide (p0.Op ≤ (24 : Int)))) else (Dl p0 s_RBuiltExpr n false)))
def Fp (s_RBuiltExpr : TE → Option Bool) (n : Nat) (p0 : TE) : Option Bool :=
 (bif (decide (p0.Op = (1 : Int))) then (BJ p0 s_RBuiltExpr n (max p0.N (0 : Int)) (⟨#[]⟩ : ByteArray) (⟨#[]⟩ : ByteArray) (⟨#[]⟩ : ByteArray) (0 : Int)) else (bif (decide (p0.Op = (2 : Int))) then (bif (decide ((200 : Int) < (p0.S.size : Int))) then some false else (BJ p0 s_RBuiltExpr n (0 : Int) p0.S (⟨#[]⟩ : ByteArray) (⟨#[]⟩ : ByteArray) (0 : Int))) else (bif (decide (p0.Op = (3 : Int))) then (BJ p0 s_RBuiltExpr n (min (max p0.N (0 : Int)) (1 : Int)) (⟨#[]⟩ : ByteArray) (⟨#[]⟩ : ByteArray) (⟨#[]⟩ : ByteArray) (0 : Int)) else (bif (decide (p0.Op = (4 : Int))) then (DQ p0 s_RBuiltExpr n true) else (DQ p0 s_RBuiltExpr n (decide (p0.Op = (5 : Int))))))))
set_option maxRecDepth 100000 in
set_option maxHeartbeats 4000000 in
theorem ZI (s_RBuiltExpr : TE → Option Bool) (n : Nat) (p0 : TE) (H_s_RBuiltExpr : ∀ (p0 : TE) {r : Bool}, s_RBuiltExpr p0 = some r → ∀ {st : List Content} {K : PV → List Content → Prop} (h : K (.d (.bool r)) st), Aw PR GM [(.agg [(.d (.int .i64 p0.Op)), (.d (.int .i64 p0.N)), (.d (.str p0.S)), (.d (.str p0.Name)), (.d (.str p0.Src)), (.d (.sl (List.map TE.row p0.Args)))])] st K) {r : Bool} (hr : Fp s_RBuiltExpr n p0 = some r) {K : PV → List Content → Prop} (h : K (.d (.bool r)) st) : Aw PR GM [(.agg [(.d (.int .i64 p0.Op)), (.d (.int .i64 p0.N)), (.d (.str p0.S)), (.d (.str p0.Name)), (.d (.str p0.Src)), (.d (.sl (List.map TE.row p0.Args)))])] st K := by
 refine Aw.of Ak0 (Nat.le_of_ble_eq_true rfl) fun hwf => ?_
 rw [Cm]
 refine AQ ?_
 unfold Tn
 rw [Fp] at hr
 refine Al (Af ?_)
 unfold Pq
 refine Gw (k := 0) rfl rfl (e_t eh) Bg (by exact rfl) ?_
 refine Ab e_c (Aa (Ae (Al (Af ?_))))
 unfold Ph
 refine AB (e_t (em rfl eh)) (by exact rfl) ?_
 refine Ap (e_t eh) ((Am rfl 0).trans rfl) (by exact rfl) ?_
 refine Ir (cs := [(.d (.int .i64 p0.Op)), (.d (.int .i64 (0 : Int))), (.d (.str (⟨#[]⟩ : ByteArray))), (.d (.str (⟨#[]⟩ : ByteArray))), (.d (.str (⟨#[]⟩ : ByteArray))), (.ex [])]) (Cl (e_t eh) AZ rfl (Nat.le_of_ble_eq_true rfl) (by exact rfl) Kp) (Ck (e_t eh) AZ (by exact rfl) Kt) ?_
 refine Ci (k := 1) rfl rfl ?_
 refine Bl (e_t eh) ((Am rfl 1).trans rfl) (e_t (em rfl eh)) Bg rfl (Nat.le_of_ble_eq_true rfl) (by exact rfl) (cells' := [(.d (.int .i64 p0.Op)), (.d (.int .i64 (0 : Int))), (.d (.str (⟨#[]⟩ : ByteArray))), (.d (.str (⟨#[]⟩ : ByteArray))), (.d (.str (⟨#[]⟩ : ByteArray))), (.ex [])]) (by exact rfl) (Bk rfl _ _) ?_
 refine Aa (Ae (Al (Af ?_)))
 unfold O8
 refine Ab e_c (Aa (Ae ?_))
 refine BD (fun f st' => ∃ (v9 : Int), ∃ (v10 : ByteArray), ∃ (v11 : ByteArray), ∃ (v12 : ByteArray), ∃ (v13 : Int), BJ p0 s_RBuiltExpr n v9 v10 v11 v12 v13 = some r ∧ f 1 = (.ptr (st.length + 0) 0) ∧ f 3 = (.ptr (st.length + 1) 0) ∧ f 4 = (.d (.int .i64 v13)) ∧ st' = st ++ [(.box [(.d (.int .i64 p0.Op)), (.d (.int .i64 p0.N)), (.d (.str p0.S)), (.d (.str p0.Name)), (.d (.str p0.Src)), (.d (.sl (List.map TE.row p0.Args)))]), (.box [(.d (.int .i64 p0.Op)), (.d (.int .i64 v9)), (.d (.str v10)), (.d (.str v11)), (.d (.str v12)), (.ex [])])]) ?_ ?_
 rotate_left
 · rintro f st' ⟨v9, v10, v11, v12, v13, hr, h1, h3, h4, rfl⟩
   rw [BJ] at hr
   refine Al ?_
   refine BD (fun f st' => ∃ (v17 : Bool), DU p0 s_RBuiltExpr n v13 v17 = some r ∧ f 1 = (.ptr (st.length + 0) 0) ∧ f 4 = (.d (.int .i64 v13)) ∧ f 136 = (.d (.bool v17)) ∧ st' = st ++ [(.box [(.d (.int .i64 p0.Op)), (.d (.int .i64 p0.N)), (.d (.str p0.S)), (.d (.str p0.Name)), (.d (.str p0.Src)), (.d (.sl (List.map TE.row p0.Args)))]), (.box [(.d (.int .i64 p0.Op)), (.d (.int .i64 v9)), (.d (.str v10)), (.d (.str v11)), (.d (.str v12)), (.ex [])])]) ?_ ?_
   rotate_left
   · rintro f st' ⟨v17, hr, h1, h4, h136, rfl⟩
     rw [DU] at hr
     refine AC (e_t h136) hr (fun hr => ?_) (fun hr => ?_)
     · refine Al (Af ?_)
       unfold NM
       refine Ab e_c (Aa (Ae (AI (AA ?_))))
       cases hr
       exact A7 (AF eh AH) (AM AG v_d) (Av hwf) h
     refine AN (Ae (Al (Al (Af ?_))))
     unfold N8
     refine Ab e_c (Aa (Ae ?_))
     refine AX ?_
     refine Ca (fun m f st' => ∃ (v18 : Int), Bu p0 s_RBuiltExpr v13 m v18 = some r ∧ f 1 = (.ptr (st.length + 0) 0) ∧ f 4 = (.d (.int .i64 v13)) ∧ f 5 = (.d (.int .i64 v18)) ∧ st' = st ++ [(.box [(.d (.int .i64 p0.Op)), (.d (.int .i64 p0.N)), (.d (.str p0.S)), (.d (.str p0.Name)), (.d (.str p0.Src)), (.d (.sl (List.map TE.row p0.Args)))]), (.box [(.d (.int .i64 p0.Op)), (.d (.int .i64 v9)), (.d (.str v10)), (.d (.str v11)), (.d (.str v12)), (.ex [])])]) n (Ghost.refl _) ⟨(0 : Int), hr, (em rfl h1), (em rfl h4), eh, rfl⟩ ?_
     rintro m f st' ⟨v18, hr, h1, h4, h5, rfl⟩
     cases m with
     | zero => cases hr
     | succ m_0 =>
       rw [Bu] at hr
       generalize hrec_0 : Bu p0 s_RBuiltExpr v13 m_0 = q0 at hr
       rw [Eb] at hr
       unfold Ol
       refine Al (Al (Af ?_))
       unfold Oc
       refine Ab (e_t h5) (Ab (e_t (em rfl h4)) ?_)
       refine Ar (e_t (em rfl eh)) (e_t eh) (CL ?_)
       refine Aa (Ae ?_)
       refine AC (e_t eh) hr (fun hr => ?_) (fun hr => ?_)
       rotate_left
       · refine CP ?_
         refine A0 ?_
         refine A0 ?_
         refine Ea ?_
         refine Ae (Al (Af ?_))
         unfold NJ
         refine Ab e_c (Aa (Ae (AI ?_)))
         cases hr
         exact A7 (AF eh AH) (AM AG v_d) (Av hwf) h
       refine AN (Ae (Al ?_))
       refine AX ?_
       refine Al (Af ?_)
       unfold NW
       refine AB (e_t (Ac rfl (em rfl h1))) (by exact rfl) ?_
       refine Ap (e_t eh) ((Am rfl 0).trans rfl) (by exact rfl) ?_
       refine Ab (e_t (Ad rfl (em rfl h5))) ?_
       refine Bt (row := TE.row) (AL (e_t (em rfl eh)) Bq) (e_t eh) hr TE.row_eq (fun _ => rfl) (fun v19 hr => ?_)
       refine DH (e_t eh) (Nat.le_of_ble_eq_true rfl) (by exact rfl) ?_
       obtain ⟨v20, hc_v20, hr⟩ := bind_some hr
       refine AP (Ay (e_t eh) (BP (Aq f_d (Aq f_d (Aq f_d (Aq f_d (Aq f_d (Aq f_d Cw))))))) AR) ?_
       refine H_s_RBuiltExpr v19 hc_v20 ?_
       refine CS (e_t eh) (Aa (Ae ?_))
       refine AC (e_t eh) hr (fun hr => ?_) (fun hr => ?_)
       rotate_left
       · refine AN ?_
         refine BA ?_
         refine Ae (Af ?_)
         unfold Ox
         refine Ab (e_t (Ak rfl (Ac rfl h5))) ?_
         refine Ar (e_t eh) e_c (BX ?_)
         refine Ab (e_t eh) (Aa (Ae ?_))
         exact ⟨m_0, _, Nat.lt_succ_self m_0, Ghost.refl _, (IntKind.wrap .i64 (v18 + (1 : Int))), (by rw [hrec_0]; exact hr), (Ak rfl (Ad rfl (em rfl h1))), (Ak rfl (Ad rfl (em rfl h4))), eh, rfl⟩
       refine Al (Af ?_)
       unfold Ow
       refine Ab e_c (Aa (Ae (AI ?_)))
       refine BE ?_
       refine AA (AA ?_)
       refine BE ?_
       refine AA ?_
       cases hr
       exact A7 (AF eh AH) (AM AG v_d) (Av hwf) h
   refine Af ?_
   unfold Oa
   refine Bb (fun f st' => ∃ (v14 : Bool), DR p0 s_RBuiltExpr n v11 v12 v13 v14 = some r ∧ f 1 = (.ptr (st.length + 0) 0) ∧ f 3 = (.ptr (st.length + 1) 0) ∧ f 4 = (.d (.int .i64 v13)) ∧ f 115 = (.d (.bool v14)) ∧ st' = st ++ [(.box [(.d (.int .i64 p0.Op)), (.d (.int .i64 p0.N)), (.d (.str p0.S)), (.d (.str p0.Name)), (.d (.str p0.Src)), (.d (.sl (List.map TE.row p0.Args)))]), (.box [(.d (.int .i64 p0.Op)), (.d (.int .i64 v9)), (.d (.str v10)), (.d (.str v11)), (.d (.str v12)), (.ex [])])]) ?_ ?_
   · unfold LG
     refine AB (e_t h1) (by exact rfl) ?_
     refine Ap (e_t eh) ((Am rfl 0).trans rfl) (by exact rfl) ?_
     refine AB (e_t (Ac rfl h3)) (by exact rfl) ?_
     refine Ap (e_t eh) ((Am rfl 1).trans rfl) (by exact rfl) ?_
     refine Ar (e_t (Ac rfl eh)) (e_t eh) (Sf ?_)
     refine Ab (e_t eh) ?_
     refine Au eh hr (fun hr => ?_) (fun hr => ?_)
     · refine Ah eh (Ah (em rfl eh) (Ah (Ac rfl eh) (Ah (Ac rfl (em rfl eh)) (Ah (Ad rfl eh) (An (e_t (Ad rfl (em rfl eh))) e_c ?_)))))
       refine Aa ?_
       exact ⟨true, hr, (Ak rfl (Ad rfl (em rfl h1))), (Ak rfl (Ad rfl (em rfl h3))), (Ak rfl (Ad rfl (em rfl h4))), eh, rfl⟩
     refine Aj eh ?_
     refine AB (e_t (Ad rfl (Ac rfl (em rfl h1)))) (by exact rfl) ?_
     refine Aj (em rfl eh) ?_
     refine Ap (e_t eh) ((Am rfl 0).trans rfl) (by exact rfl) ?_
     refine Aj (Ac rfl eh) ?_
     refine AB (e_t (Ak rfl (em rfl h3))) (by exact rfl) ?_
     refine Aj (Ac rfl (em rfl eh)) ?_
     refine Ap (e_t eh) ((Am rfl 1).trans rfl) (by exact rfl) ?_
     refine Aj (Ad rfl eh) ?_
     refine Ar (e_t (Ac rfl eh)) (e_t eh) (MG ?_)
     refine Ao (e_t (Ad rfl (em rfl eh))) (e_t eh) (Aa ?_)
     exact ⟨(!decide (p0.S = v10)), hr, (Ak rfl (Ad rfl (em rfl h1))), (Ak rfl (Ad rfl (em rfl h3))), (Ak rfl (Ad rfl (em rfl h4))), eh, rfl⟩
   rintro f st' ⟨v14, hr, h1, h3, h4, h115, rfl⟩
   rw [DR] at hr
   refine Bb (fun f st' => ∃ (v15 : Bool), DS p0 s_RBuiltExpr n v12 v13 v15 = some r ∧ f 1 = (.ptr (st.length + 0) 0) ∧ f 3 = (.ptr (st.length + 1) 0) ∧ f 4 = (.d (.int .i64 v13)) ∧ f 122 = (.d (.bool v15)) ∧ st' = st ++ [(.box [(.d (.int .i64 p0.Op)), (.d (.int .i64 p0.N)), (.d (.str p0.S)), (.d (.str p0.Name)), (.d (.str p0.Src)), (.d (.sl (List.map TE.row p0.Args)))]), (.box [(.d (.int .i64 p0.Op)), (.d (.int .i64 v9)), (.d (.str v10)), (.d (.str v11)), (.d (.str v12)), (.ex [])])]) ?_ ?_
   · unfold L4
     refine Ab (e_t h115) ?_
     refine Au eh hr (fun hr => ?_) (fun hr => ?_)
     · refine Ah eh (Ah (em rfl eh) (Ah (Ac rfl eh) (Ah (Ac rfl (em rfl eh)) (Ah (Ad rfl eh) (An (e_t (Ad rfl (em rfl eh))) e_c ?_)))))
       refine Aa ?_
       exact ⟨true, hr, (Ad rfl (Ad rfl h1)), (Ad rfl (Ad rfl h3)), (Ad rfl (Ad rfl h4)), eh, rfl⟩
     refine Aj eh ?_
     refine AB (e_t (Ac rfl h1)) (by exact rfl) ?_
     refine Aj (em rfl eh) ?_
     refine Ap (e_t eh) ((Am rfl 0).trans rfl) (by exact rfl) ?_
     refine Aj (Ac rfl eh) ?_
     refine AB (e_t (Ad rfl h3)) (by exact rfl) ?_
     refine Aj (Ac rfl (em rfl eh)) ?_
     refine Ap (e_t eh) ((Am rfl 1).trans rfl) (by exact rfl) ?_
     refine Aj (Ad rfl eh) ?_
     refine Ar (e_t (Ac rfl eh)) (e_t eh) (MG ?_)
     refine Ao (e_t (Ad rfl (em rfl eh))) (e_t eh) (Aa ?_)
     exact ⟨(!decide (p0.Name = v11)), hr, (Ad rfl (Ad rfl h1)), (Ad rfl (Ad rfl h3)), (Ad rfl (Ad rfl h4)), eh, rfl⟩
   rintro f st' ⟨v15, hr, h1, h3, h4, h122, rfl⟩
   rw [DS] at hr
   refine Bb (fun f st' => ∃ (v16 : Bool), DL p0 s_RBuiltExpr n v13 v16 = some r ∧ f 1 = (.ptr (st.length + 0) 0) ∧ f 4 = (.d (.int .i64 v13)) ∧ f 129 = (.d (.bool v16)) ∧ st' = st ++ [(.box [(.d (.int .i64 p0.Op)), (.d (.int .i64 p0.N)), (.d (.str p0.S)), (.d (.str p0.Name)), (.d (.str p0.Src)), (.d (.sl (List.map TE.row p0.Args)))]), (.box [(.d (.int .i64 p0.Op)), (.d (.int .i64 v9)), (.d (.str v10)), (.d (.str v11)), (.d (.str v12)), (.ex [])])]) ?_ ?_
   · unfold LJ
     refine Ab (e_t h122) ?_
     refine Au eh hr (fun hr => ?_) (fun hr => ?_)
     · refine Ah eh (Ah (em rfl eh) (Ah (Ac rfl eh) (Ah (Ac rfl (em rfl eh)) (Ah (Ad rfl eh) (An (e_t (Ad rfl (em rfl eh))) e_c ?_)))))
       refine Aa ?_
       exact ⟨true, hr, (Ad rfl (Ad rfl h1)), (Ad rfl (Ad rfl h4)), eh, rfl⟩
     refine Aj eh ?_
     refine AB (e_t (Ac rfl h1)) (by exact rfl) ?_
     refine Aj (em rfl eh) ?_
     refine Ap (e_t eh) ((Am rfl 0).trans rfl) (by exact rfl) ?_
     refine Aj (Ac rfl eh) ?_
     refine AB (e_t (Ad rfl h3)) (by exact rfl) ?_
     refine Aj (Ac rfl (em rfl eh)) ?_
     refine Ap (e_t eh) ((Am rfl 1).trans rfl) (by exact rfl) ?_
     refine Aj (Ad rfl eh) ?_
     refine Ar (e_t (Ac rfl eh)) (e_t eh) (MG ?_)
     refine Ao (e_t (Ad rfl (em rfl eh))) (e_t eh) (Aa ?_)
     exact ⟨(!decide (p0.Src = v12)), hr, (Ad rfl (Ad rfl h1)), (Ad rfl (Ad rfl h4)), eh, rfl⟩
   rintro f st' ⟨v16, hr, h1, h4, h129, rfl⟩
   rw [DL] at hr
   unfold Lj
   refine Ab (e_t h129) ?_
   refine Au eh hr (fun hr => ?_) (fun hr => ?_)
   · refine Ah eh (Ah (em rfl eh) (Ah (Ac rfl eh) (Ah (Ac rfl (em rfl eh)) (Ah (Ad rfl eh) (An (e_t (Ad rfl (em rfl eh))) e_c ?_)))))
     refine Aa (Ae ?_)
     exact ⟨true, hr, (Ad rfl (Ad rfl h1)), (Ad rfl (Ad rfl h4)), eh, rfl⟩
   refine Aj eh ?_
   refine AB (e_t (Ac rfl h1)) (by exact rfl) ?_
   refine Aj (em rfl eh) ?_
   refine Ap (e_t eh) ((Am rfl 0).trans rfl) (by exact rfl) ?_
   refine Aj (Ac rfl eh) ?_
   refine Bh (row := TE.row) (AL (e_t eh) Bq) ?_
   refine Aj (Ac rfl (em rfl eh)) (Ab (e_t (Ad rfl (em rfl h4))) (Aj (Ad rfl eh) ?_))
   refine Ar (e_t (em rfl eh)) (e_t eh) (Sf ?_)
   refine Ao (e_t (Ad rfl (em rfl eh))) (e_t eh) (Aa (Ae ?_))
   exact ⟨(!decide ((p0.Args.length : Int) = v13)), hr, (Ad rfl (Ad rfl h1)), (Ad rfl (Ad rfl h4)), eh, rfl⟩
 refine AX ?_
 refine Al (Af ?_)
 unfold Pf
 refine AB (e_t (Ad rfl (Ac rfl eh))) (by exact rfl) ?_
 refine Ap (e_t eh) ((Am rfl 0).trans rfl) (by exact rfl) ?_
 refine Ar (e_t eh) e_c (BZ ?_)
 refine Ab (e_t eh) (Aa (Ae ?_))
 refine AC (e_t eh) hr (fun hr => ?_) (fun hr => ?_)
 · refine Af ?_
   unfold O7
   refine AB (e_t (Ak rfl (Ac rfl eh))) (by exact rfl) ?_
   refine Ap (e_t eh) ((Am rfl 0).trans rfl) (by exact rfl) ?_
   refine Zg (e_t eh) (Zh e_c (PW ?_))
   refine AB (e_t (Ad rfl (Ad rfl eh))) (by exact rfl) ?_
   refine Bl (e_t eh) ((Am rfl 1).trans rfl) (e_t (em rfl eh)) AZ rfl (Nat.le_of_ble_eq_true rfl) (by exact rfl) (cells' := [(.d (.int .i64 p0.Op)), (.d (.int .i64 (max p0.N (0 : Int)))), (.d (.str (⟨#[]⟩ : ByteArray))), (.d (.str (⟨#[]⟩ : ByteArray))), (.d (.str (⟨#[]⟩ : ByteArray))), (.ex [])]) (by exact rfl) (Bk rfl _ _) ?_
   refine Aa ?_
   refine BA ?_
   refine Ae ?_
   exact ⟨(max p0.N (0 : Int)), (⟨#[]⟩ : ByteArray), (⟨#[]⟩ : ByteArray), (⟨#[]⟩ : ByteArray), (0 : Int), hr, (Ak rfl (Ad rfl (Ac rfl eh))), (Ak rfl (em rfl eh)), (Ad rfl (Ad rfl eh)), rfl⟩
 refine Al (Af ?_)
 unfold O5
 refine AB (e_t (Ak rfl (Ac rfl eh))) (by exact rfl) ?_
 refine Ap (e_t eh) ((Am rfl 0).trans rfl) (by exact rfl) ?_
 refine Ar (e_t eh) e_c (BZ ?_)
 refine Ab (e_t eh) (Aa (Ae ?_))
 refine AC (e_t eh) hr (fun hr => ?_) (fun hr => ?_)
 · refine Al (Af ?_)
   unfold O2
   refine AB (e_t (Ak rfl (Ad rfl (Ac rfl eh)))) (by exact rfl) ?_
   refine Ap (e_t eh) ((Am rfl 0).trans rfl) (by exact rfl) ?_
   refine AB (e_t (Ak rfl (Ac rfl (em rfl eh)))) (by exact rfl) ?_
   refine Bl (e_t eh) ((Am rfl 1).trans rfl) (e_t (em rfl eh)) AZ rfl (Nat.le_of_ble_eq_true rfl) (by exact rfl) (cells' := [(.d (.int .i64 p0.Op)), (.d (.int .i64 (0 : Int))), (.d (.str p0.S)), (.d (.str (⟨#[]⟩ : ByteArray))), (.d (.str (⟨#[]⟩ : ByteArray))), (.ex [])]) (by exact rfl) (Bk rfl _ _) ?_
   refine Aa (Ae (Al (Af ?_)))
   unfold Pd
   refine AB (e_t (Ai rfl (em rfl eh))) (by exact rfl) ?_
   refine Ap (e_t eh) ((Am rfl 0).trans rfl) (by exact rfl) ?_
   refine H4 (e_t eh) ?_
   refine Ar (e_t eh) e_c (C8 ?_)
   refine Aa (Ae ?_)
   refine AC (e_t eh) hr (fun hr => ?_) (fun hr => ?_)
   rotate_left
   · refine AN ?_
     refine BA ?_
     refine Ae ?_
     exact ⟨(0 : Int), p0.S, (⟨#[]⟩ : ByteArray), (⟨#[]⟩ : ByteArray), (0 : Int), hr, (Ai rfl (Ad rfl (em rfl eh))), (Ak rfl (Ad rfl (Ad rfl eh))), (Ak rfl (Ad rfl (Ac rfl (em rfl eh)))), rfl⟩
   refine Al (Af ?_)
   unfold O1
   refine Ab e_c (Aa (Ae (AI ?_)))
   refine BE ?_
   refine AA ?_
   cases hr
   exact A7 (AF eh AH) (AM AG v_d) (Av hwf) h
 refine Al (Af ?_)
 unfold PF
 refine AB (e_t (Ak rfl (Ad rfl (Ac rfl eh)))) (by exact rfl) ?_
 refine Ap (e_t eh) ((Am rfl 0).trans rfl) (by exact rfl) ?_
 refine Ar (e_t eh) e_c (BZ ?_)
 refine Ab (e_t eh) (Aa (Ae ?_))
 refine AC (e_t eh) hr (fun hr => ?_) (fun hr => ?_)
 · refine Af ?_
   unfold NK
   refine AB (e_t (Ai rfl (Ac rfl eh))) (by exact rfl) ?_
   refine Ap (e_t eh) ((Am rfl 0).trans rfl) (by exact rfl) ?_
   refine Zg (e_t eh) (Zh e_c (PW ?_))
   refine Zg (e_t eh) (Az4 e_c (PW ?_))
   refine AB (e_t (Ai rfl (em rfl eh))) (by exact rfl) ?_
   refine Bl (e_t eh) ((Am rfl 1).trans rfl) (e_t (em rfl eh)) AZ rfl (Nat.le_of_ble_eq_true rfl) (by exact rfl) (cells' := [(.d (.int .i64 p0.Op)), (.d (.int .i64 (min (max p0.N (0 : Int)) (1 : Int)))), (.d (.str (⟨#[]⟩ : ByteArray))), (.d (.str (⟨#[]⟩ : ByteArray))), (.d (.str (⟨#[]⟩ : ByteArray))), (.ex [])]) (by exact rfl) (Bk rfl _ _) ?_
   refine Aa ?_
   refine BA ?_
   refine Ae ?_
   exact ⟨(min (max p0.N (0 : Int)) (1 : Int)), (⟨#[]⟩ : ByteArray), (⟨#[]⟩ : ByteArray), (⟨#[]⟩ : ByteArray), (0 : Int), hr, (Ai rfl (Ad rfl (Ac rfl (em rfl eh)))), (Ai rfl (Ac rfl eh)), (Ai rfl (em rfl eh)), rfl⟩
 refine BD (fun f st' => ∃ (v2 : Bool), Dl p0 s_RBuiltExpr n v2 = some r ∧ f 1 = (.ptr (st.length + 0) 0) ∧ f 3 = (.ptr (st.length + 1) 0) ∧ f 4 = (.d (.int .i64 (0 : Int))) ∧ f 37 = (.d (.bool v2)) ∧ st' = st ++ [(.box [(.d (.int .i64 p0.Op)), (.d (.int .i64 p0.N)), (.d (.str p0.S)), (.d (.str p0.Name)), (.d (.str p0.Src)), (.d (.sl (List.map TE.row p0.Args)))]), (.box [(.d (.int .i64 p0.Op)), (.d (.int .i64 (0 : Int))), (.d (.str (⟨#[]⟩ : ByteArray))), (.d (.str (⟨#[]⟩ : ByteArray))), (.d (.str (⟨#[]⟩ : ByteArray))), (.ex [])])]) ?_ ?_
 · refine Af ?_
   unfold Ok
   refine Bb (fun f st' => ∃ (v1 : Bool), DQ p0 s_RBuiltExpr n v1 = some r ∧ f 1 = (.ptr (st.length + 0) 0) ∧ f 3 = (.ptr (st.length + 1) 0) ∧ f 4 = (.d (.int .i64 (0 : Int))) ∧ f 45 = (.d (.bool v1)) ∧ st' = st ++ [(.box [(.d (.int .i64 p0.Op)), (.d (.int .i64 p0.N)), (.d (.str p0.S)), (.d (.str p0.Name)), (.d (.str p0.Src)), (.d (.sl (List.map TE.row p0.Args)))]), (.box [(.d (.int .i64 p0.Op)), (.d (.int .i64 (0 : Int))), (.d (.str (⟨#[]⟩ : ByteArray))), (.d (.str (⟨#[]⟩ : ByteArray))), (.d (.str (⟨#[]⟩ : ByteArray))), (.ex [])])]) ?_ ?_
   · unfold LC
     refine AB (e_t (Ai rfl (Ac rfl eh))) (by exact rfl) ?_
     refine Ap (e_t eh) ((Am rfl 0).trans rfl) (by exact rfl) ?_
     refine Ar (e_t eh) e_c (BZ ?_)
     refine Ab (e_t eh) ?_
     refine Au eh hr (fun hr => ?_) (fun hr => ?_)
     · refine Ah eh (Ah (em rfl eh) (Ah (Ac rfl eh) (An (e_t (Ac rfl (em rfl eh))) e_c (Aa ?_))))
       exact ⟨true, hr, (Ai rfl (Ak rfl (Ac rfl (em rfl eh)))), (Ai rfl (Ad rfl (Ac rfl eh))), (Ai rfl (Ad rfl (em rfl eh))), eh, rfl⟩
     refine Aj eh ?_
     refine AB (e_t (Ai rfl (Ad rfl (Ac rfl (em rfl eh))))) (by exact rfl) ?_
     refine Aj (em rfl eh) ?_
     refine Ap (e_t eh) ((Am rfl 0).trans rfl) (by exact rfl) ?_
     refine Aj (Ac rfl eh) ?_
     refine Ar (e_t eh) e_c (BZ ?_)
     refine Ao (e_t (Ac rfl (em rfl eh))) (e_t eh) (Aa ?_)
     exact ⟨(decide (p0.Op = (5 : Int))), hr, (Ai rfl (Ak rfl (Ac rfl (em rfl eh)))), (Ai rfl (Ad rfl (Ac rfl eh))), (Ai rfl (Ad rfl (em rfl eh))), eh, rfl⟩
   rintro f st' ⟨v1, hr, h1, h3, h4, h45, rfl⟩
   rw [DQ] at hr
   refine Bo ?_
   unfold LO
   refine Ab (e_t h45) ?_
   refine Au eh hr (fun hr => ?_) (fun hr => ?_)
   · refine Ah eh (Ah (em rfl eh) (Ah (Ac rfl eh) (Ah (Ac rfl (em rfl eh)) ?_)))
     refine A8 eh ?_
     refine A8 (em rfl eh) ?_
     refine A8 (Ac rfl eh) ?_
     refine Ah (Ad rfl (Ac rfl (em rfl eh))) (An (e_t (Ad rfl (Ad rfl eh))) e_c (Aa ?_))
     unfold GN
     refine Ab (e_t eh) (Aa (Ae ?_))
     exact ⟨true, hr, (Ak rfl (Ad rfl h1)), (Ak rfl (Ad rfl h3)), (Ak rfl (Ad rfl h4)), eh, rfl⟩
   refine Aj eh ?_
   refine AB (e_t (Ac rfl h1)) (by exact rfl) ?_
   refine Aj (em rfl eh) ?_
   refine Ap (e_t eh) ((Am rfl 0).trans rfl) (by exact rfl) ?_
   refine Aj (Ac rfl eh) ?_
   refine Ar (e_t eh) e_c (ET ?_)
   refine Aj (Ac rfl (em rfl eh)) (Ab (e_t eh) ?_)
   refine Au eh hr (fun hr => ?_) (fun hr => ?_)
   rotate_left
   · refine Ah eh (Ah (em rfl eh) (Ah (Ac rfl eh) (Aj (Ad rfl (Ad rfl eh)) (Ao (e_t (Ac rfl (em rfl eh))) e_c (Ao (e_t (Ak rfl (em rfl eh))) (e_t eh) ?_)))))
     refine Aa ?_
     unfold GN
     refine Ab (e_t eh) (Aa (Ae ?_))
     exact ⟨false, hr, (Ak rfl (Ad rfl (em rfl h1))), (Ak rfl (Ad rfl (em rfl h3))), (Ak rfl (Ad rfl (em rfl h4))), eh, rfl⟩
   refine Aj eh ?_
   refine AB (e_t (Ad rfl (Ac rfl (em rfl h1)))) (by exact rfl) ?_
   refine Aj (em rfl eh) ?_
   refine Ap (e_t eh) ((Am rfl 0).trans rfl) (by exact rfl) ?_
   refine Aj (Ac rfl eh) ?_
   refine Ar (e_t eh) e_c (JE ?_)
   refine Aj (Ad rfl (Ad rfl eh)) (An (e_t (Ac rfl (em rfl eh))) (e_t eh) (Ao (e_t (Ak rfl (em rfl eh))) (e_t eh) (Aa ?_)))
   unfold GN
   refine Ab (e_t eh) (Aa (Ae ?_))
   exact ⟨(decide (p0.Op ≤ (24 : Int))), hr, (Ak rfl (Ad rfl (em rfl h1))), (Ak rfl (Ad rfl (em rfl h3))), (Ak rfl (Ad rfl (em rfl h4))), eh, rfl⟩
 rintro f st' ⟨v2, hr, h1, h3, h4, h37, rfl⟩
 rw [Dl] at hr
 refine AC (e_t h37) hr (fun hr => ?_) (fun hr => ?_)
 rotate_left
 · refine BD (fun f st' => ∃ (v8 : Bool), DO p0 s_RBuiltExpr n v8 = some r ∧ f 1 = (.ptr (st.length + 0) 0) ∧ f 3 = (.ptr (st.length + 1) 0) ∧ f 86 = (.d (.bool v8)) ∧ st' = st ++ [(.box [(.d (.int .i64 p0.Op)), (.d (.int .i64 p0.N)), (.d (.str p0.S)), (.d (.str p0.Name)), (.d (.str p0.Src)), (.d (.sl (List.map TE.row p0.Args)))]), (.box [(.d (.int .i64 p0.Op)), (.d (.int .i64 (0 : Int))), (.d (.str (⟨#[]⟩ : ByteArray))), (.d (.str (⟨#[]⟩ : ByteArray))), (.d (.str (⟨#[]⟩ : ByteArray))), (.ex [])])]) ?_ ?_
   · refine Af ?_
     unfold Oz
     refine Bo ?_
     unfold Mb
     refine AB (e_t h1) (by exact rfl) ?_
     refine Ap (e_t eh) ((Am rfl 0).trans rfl) (by exact rfl) ?_
     refine Ar (e_t eh) e_c (ET ?_)
     refine Ab (e_t eh) ?_
     refine Au eh hr (fun hr => ?_) (fun hr => ?_)
     rotate_left
     · refine Ah eh (Ah (em rfl eh) (Ah (Ac rfl eh) (Ao (e_t (Ac rfl (em rfl eh))) e_c (Aa ?_))))
       unfold Iy
       refine Ab (e_t eh) (Aa (Ae ?_))
       exact ⟨false, hr, (Ak rfl (Ac rfl h1)), (Ak rfl (Ac rfl h3)), eh, rfl⟩
     refine Aj eh ?_
     refine AB (e_t (Ad rfl (em rfl h1))) (by exact rfl) ?_
     refine Aj (em rfl eh) ?_
     refine Ap (e_t eh) ((Am rfl 0).trans rfl) (by exact rfl) ?_
     refine Aj (Ac rfl eh) ?_
     refine Ar (e_t eh) e_c (JE ?_)
     refine An (e_t (Ac rfl (em rfl eh))) (e_t eh) (Aa ?_)
     unfold Iy
     refine Ab (e_t eh) (Aa (Ae ?_))
     exact ⟨(decide (p0.Op ≤ (18 : Int))), hr, (Ak rfl (Ac rfl h1)), (Ak rfl (Ac rfl h3)), eh, rfl⟩
   rintro f st' ⟨v8, hr, h1, h3, h86, rfl⟩
   rw [DO] at hr
   refine AC (e_t h86) hr (fun hr => ?_) (fun hr => ?_)
   · refine Af ?_
     unfold Nx
     refine Ab e_c (Aa ?_)
     refine BA ?_
     refine Ae ?_
     exact ⟨(0 : Int), (⟨#[]⟩ : ByteArray), (⟨#[]⟩ : ByteArray), (⟨#[]⟩ : ByteArray), (2 : Int), hr, (em rfl h1), (em rfl h3), eh, rfl⟩
   refine Al (Af ?_)
   unfold Nr
   refine Bo ?_
   unfold Lp
   refine AB (e_t h1) (by exact rfl) ?_
   refine Ap (e_t eh) ((Am rfl 0).trans rfl) (by exact rfl) ?_
   refine Ar (e_t eh) e_c (BZ ?_)
   refine Ab (e_t eh) ?_
   refine Au eh hr (fun hr => ?_) (fun hr => ?_)
   · refine Ah eh (Ah (em rfl eh) (Ah (Ac rfl eh) (An (e_t (Ac rfl (em rfl eh))) e_c (Aa ?_))))
     unfold Ix
     refine Ab (e_t eh) (Aa (Ae ?_))
     refine Dz (e_t eh) ?_
     refine Af ?_
     unfold JG
     refine Ab e_c (Aa ?_)
     refine BA ?_
     refine Ae ?_
     exact ⟨(0 : Int), (⟨#[]⟩ : ByteArray), (⟨#[]⟩ : ByteArray), (⟨#[]⟩ : ByteArray), (1 : Int), hr, (Ak rfl (Ac rfl (em rfl h1))), (Ak rfl (Ac rfl (em rfl h3))), eh, rfl⟩
   refine Aj eh ?_
   refine AB (e_t (Ad rfl (em rfl h1))) (by exact rfl) ?_
   refine Aj (em rfl eh) ?_
   refine Ap (e_t eh) ((Am rfl 0).trans rfl) (by exact rfl) ?_
   refine Aj (Ac rfl eh) ?_
   refine Ar (e_t eh) e_c (BZ ?_)
   refine Ao (e_t (Ac rfl (em rfl eh))) (e_t eh) (Aa ?_)
   unfold Ix
   refine Ab (e_t eh) (Aa (Ae ?_))
   refine AC (e_t eh) hr (fun hr => ?_) (fun hr => ?_)
   · refine Af ?_
     unfold JG
     refine Ab e_c (Aa ?_)
     refine BA ?_
     refine Ae ?_
     exact ⟨(0 : Int), (⟨#[]⟩ : ByteArray), (⟨#[]⟩ : ByteArray), (⟨#[]⟩ : ByteArray), (1 : Int), hr, (Ak rfl (Ac rfl (em rfl h1))), (Ak rfl (Ac rfl (em rfl h3))), eh, rfl⟩
   refine Al (Af ?_)
   unfold NB
   refine Ab e_c (Aa (Ae (AI ?_)))
   refine BE ?_
   refine AA ?_
   cases hr
   exact A7 (AF eh AH) (AM AG v_d) (Av hwf) h
 refine Al (Af ?_)
 unfold Nz
 refine AB (e_t h1) (by exact rfl) ?_
 refine Ap (e_t eh) ((Am rfl 0).trans rfl) (by exact rfl) ?_
 refine AB (e_t (Ac rfl h3)) (by exact rfl) ?_
 refine Bl (e_t eh) ((Am rfl 1).trans rfl) (e_t (em rfl eh)) AZ rfl (Nat.le_of_ble_eq_true rfl) (by exact rfl) (cells' := [(.d (.int .i64 p0.Op)), (.d (.int .i64 (0 : Int))), (.d (.str (⟨#[]⟩ : ByteArray))), (.d (.str p0.Name)), (.d (.str (⟨#[]⟩ : ByteArray))), (.ex [])]) (by exact rfl) (Bk rfl _ _) ?_
 refine Aa (Ae (Al (Al (Af ?_))))
 unfold NP
 refine AB (e_t (Ac rfl (em rfl h1))) (by exact rfl) ?_
 refine Ap (e_t eh) ((Am rfl 0).trans rfl) (by exact rfl) ?_
 obtain ⟨v3, hc_v3, hr⟩ := bind_some hr
 refine AP (Ay (e_t eh) AG AR) ?_
 refine JV n p0.Name hc_v3 ?_
 refine CS (e_t eh) (Aa (Ae ?_))
 refine AC (e_t eh) hr (fun hr => ?_) (fun hr => ?_)
 · refine Al (Af ?_)
   unfold NL
   refine Ab e_c (Aa (Ae (AI (AA ?_))))
   refine BE ?_
   refine AA ?_
   cases hr
   exact A7 (AF eh AH) (AM AG v_d) (Av hwf) h
 refine AN (Ae ?_)
 refine BD (fun f st' => ∃ (v5 : ByteArray), DN p0 s_RBuiltExpr n v5 = some r ∧ f 1 = (.ptr (st.length + 0) 0) ∧ f 3 = (.ptr (st.length + 1) 0) ∧ f 4 = (.d (.int .i64 (0 : Int))) ∧ st' = st ++ [(.box [(.d (.int .i64 p0.Op)), (.d (.int .i64 p0.N)), (.d (.str p0.S)), (.d (.str p0.Name)), (.d (.str p0.Src)), (.d (.sl (List.map TE.row p0.Args)))]), (.box [(.d (.int .i64 p0.Op)), (.d (.int .i64 (0 : Int))), (.d (.str v5)), (.d (.str p0.Name)), (.d (.str (⟨#[]⟩ : ByteArray))), (.ex [])])]) ?_ ?_
 · refine Al (Af ?_)
   unfold NI
   refine AB (e_t (Ad rfl (Ac rfl (em rfl h1)))) (by exact rfl) ?_
   refine Ap (e_t eh) ((Am rfl 0).trans rfl) (by exact rfl) ?_
   refine Ar (e_t eh) e_c (BZ ?_)
   refine Aa (Ae ?_)
   refine AC (e_t eh) hr (fun hr => ?_) (fun hr => ?_)
   rotate_left
   · refine AN (Ae ?_)
     exact ⟨(⟨#[]⟩ : ByteArray), hr, (Ak rfl (Ac rfl h1)), (Ak rfl (Ac rfl h3)), (Ak rfl (Ac rfl h4)), rfl⟩
   refine Al (Af ?_)
   unfold Nt
   refine AB (e_t (Ak rfl (Ac rfl h1))) (by exact rfl) ?_
   refine Ap (e_t eh) ((Am rfl 0).trans rfl) (by exact rfl) ?_
   refine AB (e_t (Ak rfl (Ad rfl h3))) (by exact rfl) ?_
   refine Bl (e_t eh) ((Am rfl 1).trans rfl) (e_t (em rfl eh)) AZ rfl (Nat.le_of_ble_eq_true rfl) (by exact rfl) (cells' := [(.d (.int .i64 p0.Op)), (.d (.int .i64 (0 : Int))), (.d (.str p0.S)), (.d (.str p0.Name)), (.d (.str (⟨#[]⟩ : ByteArray))), (.ex [])]) (by exact rfl) (Bk rfl _ _) ?_
   refine Aa (Ae (Al (Af ?_)))
   unfold No
   refine AB (e_t (Ak rfl (Ad rfl (em rfl h1)))) (by exact rfl) ?_
   refine Ap (e_t eh) ((Am rfl 0).trans rfl) (by exact rfl) ?_
   obtain ⟨v4, hc_v4, hr⟩ := bind_some hr
   refine AP (Ay (e_t eh) AG AR) ?_
   refine JV n p0.S hc_v4 ?_
   refine CS (e_t eh) (Aa (Ae ?_))
   refine AC (e_t eh) hr (fun hr => ?_) (fun hr => ?_)
   rotate_left
   · refine AN (Ae ?_)
     exact ⟨p0.S, hr, (Ai rfl (em rfl h1)), (Ai rfl (em rfl h3)), (Ai rfl (em rfl h4)), rfl⟩
   refine Al (Af ?_)
   unfold ND
   refine Ab e_c (Aa (Ae (AI (AA ?_))))
   refine BE ?_
   refine AA ?_
   cases hr
   exact A7 (AF eh AH) (AM AG v_d) (Av hwf) h
 rintro f st' ⟨v5, hr, h1, h3, h4, rfl⟩
 rw [DN] at hr
 refine Al (Af ?_)
 unfold Ot
 refine AB (e_t h1) (by exact rfl) ?_
 refine Ap (e_t eh) ((Am rfl 0).trans rfl) (by exact rfl) ?_
 refine Ar (e_t eh) e_c (C8 ?_)
 refine Aa (Ae ?_)
 refine AC (e_t eh) hr (fun hr => ?_) (fun hr => ?_)
 rotate_left
 · refine AN ?_
   refine BA ?_
   refine Ae ?_
   exact ⟨(0 : Int), v5, p0.Name, (⟨#[]⟩ : ByteArray), (0 : Int), hr, (Ac rfl (em rfl h1)), (Ac rfl (em rfl h3)), (Ac rfl (em rfl h4)), rfl⟩
 refine Al (Af ?_)
 unfold Om
 refine AB (e_t (Ac rfl (em rfl h1))) (by exact rfl) ?_
 refine Ap (e_t eh) ((Am rfl 0).trans rfl) (by exact rfl) ?_
 refine AB (e_t (Ad rfl (em rfl h3))) (by exact rfl) ?_
 refine Bl (e_t eh) ((Am rfl 1).trans rfl) (e_t (em rfl eh)) AZ rfl (Nat.le_of_ble_eq_true rfl) (by exact rfl) (cells' := [(.d (.int .i64 p0.Op)), (.d (.int .i64 (0 : Int))), (.d (.str v5)), (.d (.str p0.Name)), (.d (.str p0.Src)), (.ex [])]) (by exact rfl) (Bk rfl _ _) ?_
 refine Aa (Ae (Al (Af ?_)))
 unfold Od
 refine Ab e_c (Aa (Ae ?_))
 refine BD (fun f st' => ∃ (v6 : Int), DK p0 s_RBuiltExpr n v5 v6 = some r ∧ f 1 = (.ptr (st.length + 0) 0) ∧ f 3 = (.ptr (st.length + 1) 0) ∧ f 4 = (.d (.int .i64 v6)) ∧ st' = st ++ [(.box [(.d (.int .i64 p0.Op)), (.d (.int .i64 p0.N)), (.d (.str p0.S)), (.d (.str p0.Name)), (.d (.str p0.Src)), (.d (.sl (List.map TE.row p0.Args)))]), (.box [(.d (.int .i64 p0.Op)), (.d (.int .i64 (0 : Int))), (.d (.str v5)), (.d (.str p0.Name)), (.d (.str p0.Src)), (.ex [])])]) ?_ ?_
 · refine Al (Af ?_)
   unfold NH
   refine AB (e_t (Ad rfl (Ac rfl (em rfl h1)))) (by exact rfl) ?_
   refine Ap (e_t eh) ((Am rfl 0).trans rfl) (by exact rfl) ?_
   refine Ar (e_t eh) e_c (BZ ?_)
   refine Aa (Ae ?_)
   refine AC (e_t eh) hr (fun hr => ?_) (fun hr => ?_)
   rotate_left
   · refine AN (Ae ?_)
     exact ⟨(2 : Int), hr, (Ak rfl (Ac rfl h1)), (Ak rfl (Ac rfl h3)), (Ac rfl (em rfl eh)), rfl⟩
   refine Af ?_
   unfold NX
   refine Ab e_c (Aa (Ae ?_))
   exact ⟨(1 : Int), hr, (Ak rfl (Ac rfl (em rfl h1))), (Ak rfl (Ac rfl (em rfl h3))), eh, rfl⟩
 rintro f st' ⟨v6, hr, h1, h3, h4, rfl⟩
 rw [DK] at hr
 refine Al (Af ?_)
 unfold NF
 refine AB (e_t h1) (by exact rfl) ?_
 refine Ap (e_t eh) ((Am rfl 0).trans rfl) (by exact rfl) ?_
 obtain ⟨v7, hc_v7, hr⟩ := bind_some hr
 refine AP (Ay (e_t eh) AG AR) ?_
 refine JV n p0.Src hc_v7 ?_
 refine CS (e_t eh) (Aa (Ae ?_))
 refine AC (e_t eh) hr (fun hr => ?_) (fun hr => ?_)
 rotate_left
 · refine AN ?_
   refine BA ?_
   refine Ae ?_
   exact ⟨(0 : Int), v5, p0.Name, p0.Src, v6, hr, (Ad rfl h1), (Ad rfl h3), (Ad rfl h4), rfl⟩
 refine Al (Af ?_)
 unfold NY
 refine Ab e_c (Aa (Ae (AI ?_)))
 refine BE ?_
 refine AA ?_
 cases hr
 exact A7 (AF eh AH) (AM AG v_d) (Av hwf) h
def By : Nat → TE → Option Bool
 | 0, _ => none
 | n + 1, p0 => Fp (By n) n p0
theorem R1 : ∀ n : Nat, (∀ (p0 : TE) {r : Bool}, By n p0 = some r → ∀ {st : List Content} {K : PV → List Content → Prop} (h : K (.d (.bool r)) st), Aw PR GM [(.agg [(.d (.int .i64 p0.Op)), (.d (.int .i64 p0.N)), (.d (.str p0.S)), (.d (.str p0.Name)), (.d (.str p0.Src)), (.d (.sl (List.map TE.row p0.Args)))])] st K)
 | 0 => fun _ _ hr => (by rw [By] at hr; cases hr)
 | n + 1 => fun p0 _ hr _ _ h => ZI (By n) n p0 (R1 n) (by rw [By] at hr; exact hr) h
theorem Aj6 (n : Nat) (p0 : TE) {r : Bool} (hr : By n p0 = some r) {K : PV → List Content → Prop} (h : K (.d (.bool r)) st) : Aw PR GM [(.agg [(.d (.int .i64 p0.Op)), (.d (.int .i64 p0.N)), (.d (.str p0.S)), (.d (.str p0.Name)), (.d (.str p0.Src)), (.d (.sl (List.map TE.row p0.Args)))])] st K := (R1 n) p0 hr h
end Go.Ax
