import Derived.Test.YtojkpenjeglipaaGreatTWT
import Derived.Test.YtojkpenjeglipaaGreatTCVX
import Derived.Test.YtojkpenjeglipaaGreatTCPrim
import Derived.Test.YtojkpenjeglipaaGreatTWD2
set_option linter.unusedVariables false
set_option maxRecDepth 100000
set_option maxHeartbeats 4000000
namespace Go.Ax
attribute [local irreducible] BH FA F2 Bf DM Hp Cq V4 Lz upd ev u0 Dh frz A4 EO mmD bnd Ch Gk DU C2 Ie JH FZ cutV NL CO
variable {st : List Content}
def IF (p0 : TE) (s_RBuiltExpr : TE → Option Bool) (v13 : Int) (q0 : Int → Option Bool) (v18 : Int) : Option Bool :=
 (bif (decide (v18 < v13)) then ((Dw p0.Args v18).bind fun v19 => ((s_RBuiltExpr v19).bind fun v20 => (bif (!v20) then some false else q0 (IntKind.wrap .i64 (v18 + (1 : Int)))))) else some true)
def CD (p0 : TE) (s_RBuiltExpr : TE → Option Bool) (v13 : Int) : Nat → Int → Option Bool
 | 0, _ => none
 | m + 1, v18 => IF p0 s_RBuiltExpr v13 (CD p0 s_RBuiltExpr v13 m) v18
def Ht (p0 : TE) (s_RBuiltExpr : TE → Option Bool) (n : Nat) (v13 : Int) (v17 : Bool) : Option Bool :=
 (bif v17 then some false else (CD p0 s_RBuiltExpr v13 n (0 : Int)))
def Hh (p0 : TE) (s_RBuiltExpr : TE → Option Bool) (n : Nat) (v13 : Int) (v16 : Bool) : Option Bool :=
 (bif v16 then (Ht p0 s_RBuiltExpr n v13 true) else (Ht p0 s_RBuiltExpr n v13 (!decide ((p0.Args.length : Int) = v13))))
def Ho (p0 : TE) (s_RBuiltExpr : TE → Option Bool) (n : Nat) (v12 : ByteArray) (v13 : Int) (v15 : Bool) : Option Bool :=
 (bif v15 then (Hh p0 s_RBuiltExpr n v13 true) else (Hh p0 s_RBuiltExpr n v13 (!decide (p0.Src = v12))))
def Hz (p0 : TE) (s_RBuiltExpr : TE → Option Bool) (n : Nat) (v11 : ByteArray) (v12 : ByteArray) (v13 : Int) (v14 : Bool) : Option Bool :=
 (bif v14 then (Ho p0 s_RBuiltExpr n v12 v13 true) else (Ho p0 s_RBuiltExpr n v12 v13 (!decide (p0.Name = v11))))
def Cg (p0 : TE) (s_RBuiltExpr : TE → Option Bool) (n : Nat) (v9 : Int) (v10 : ByteArray) (v11 : ByteArray) (v12 : ByteArray) (v13 : Int) : Option Bool :=
 (bif (!decide (p0.N = v9)) then (Hz p0 s_RBuiltExpr n v11 v12 v13 true) else (Hz p0 s_RBuiltExpr n v11 v12 v13 (!decide (p0.S = v10))))
def Hs (p0 : TE) (s_RBuiltExpr : TE → Option Bool) (n : Nat) (v5 : ByteArray) (v6 : Int) : Option Bool :=
 ((EE n p0.Src).bind fun v7 => (bif (!v7) then some false else (Cg p0 s_RBuiltExpr n (0 : Int) v5 p0.Name p0.Src v6)))
def Hy (p0 : TE) (s_RBuiltExpr : TE → Option Bool) (n : Nat) (v5 : ByteArray) : Option Bool :=
 (bif (decide ((5 : Int) < p0.Op)) then (bif (decide (p0.Op = (21 : Int))) then (Hs p0 s_RBuiltExpr n v5 (1 : Int)) else (Hs p0 s_RBuiltExpr n v5 (2 : Int))) else (Cg p0 s_RBuiltExpr n (0 : Int) v5 p0.Name (⟨#[]⟩ : ByteArray) (0 : Int)))
def Hk (p0 : TE) (s_RBuiltExpr : TE → Option Bool) (n : Nat) (v8 : Bool) : Option Bool :=
 (bif v8 then (Cg p0 s_RBuiltExpr n (0 : Int) (⟨#[]⟩ : ByteArray) (⟨#[]⟩ : ByteArray) (⟨#[]⟩ : ByteArray) (2 : Int)) else (bif (decide (p0.Op = (19 : Int))) then (Cg p0 s_RBuiltExpr n (0 : Int) (⟨#[]⟩ : ByteArray) (⟨#[]⟩ : ByteArray) (⟨#[]⟩ : ByteArray) (1 : Int)) else (bif (decide (p0.Op = (20 : Int))) then (Cg p0 s_RBuiltExpr n (0 : Int) (⟨#[]⟩ : ByteArray) (⟨#[]⟩ : ByteArray) (⟨#[]⟩ : ByteArray) (1 : Int)) else some false)))
def FN (p0 : TE) (s_RBuiltExpr : TE → Option Bool) (n : Nat) (v2 : Bool) : Option Bool :=
 (bif v2 then ((EE n p0.Name).bind fun v3 => (bif (!v3) then some false else (bif (decide (p0.Op = (5 : Int))) then ((EE n p0.S).bind fun v4 => (bif (!v4) then some false else (Hy p0 s_RBuiltExpr n p0.S))) else (Hy p0 s_RBuiltExpr n (⟨#[]⟩ : ByteArray))))) else (bif (decide ((6 : Int) ≤ p0.Op)) then (Hk p0 s_RBuiltExpr n (decide (p0.Op ≤ (18 : Int)))) else (Hk p0 s_RBuiltExpr n false)))
def Hf (p0 : TE) (s_RBuiltExpr : TE → Option Bool) (n : Nat) (v1 : Bool) : Option Bool :=
 (bif v1 then (FN p0 s_RBuiltExpr n true) else (bif (decide ((21 : Int) ≤ p0.Op)) then (FN p0 s_RBuiltExpr n (decide (p0.Op ≤ (24 : Int)))) else (FN p0 s_RBuiltExpr n false)))
def Lt (s_RBuiltExpr : TE → Option Bool) (n : Nat) (p0 : TE) : Option Bool :=
 (bif (decide (p0.Op = (1 : Int))) then (Cg p0 s_RBuiltExpr n (max p0.N (0 : Int)) (⟨#[]⟩ : ByteArray) (⟨#[]⟩ : ByteArray) (⟨#[]⟩ : ByteArray) (0 : Int)) else (bif (decide (p0.Op = (2 : Int))) then (bif (decide ((200 : Int) < (p0.S.size : Int))) then some false else (Cg p0 s_RBuiltExpr n (0 : Int) p0.S (⟨#[]⟩ : ByteArray) (⟨#[]⟩ : ByteArray) (0 : Int))) else (bif (decide (p0.Op = (3 : Int))) then (Cg p0 s_RBuiltExpr n (min (max p0.N (0 : Int)) (1 : Int)) (⟨#[]⟩ : ByteArray) (⟨#[]⟩ : ByteArray) (⟨#[]⟩ : ByteArray) (0 : Int)) else (bif (decide (p0.Op = (4 : Int))) then (Hf p0 s_RBuiltExpr n true) else (Hf p0 s_RBuiltExpr n (decide (p0.Op = (5 : Int))))))))
theorem Bo4 (s_RBuiltExpr : TE → Option Bool) (n : Nat) (p0 : TE) (H_s_RBuiltExpr : ∀ (p0 : TE) {r : Bool}, s_RBuiltExpr p0 = some r → ∀ {st : List Content} {K : PV → List Content → Prop} (h : K (.d (.bool r)) st), Aw PR FT [(.agg [(.d (.int .i64 p0.Op)), (.d (.int .i64 p0.N)), (.d (.str p0.S)), (.d (.str p0.Name)), (.d (.str p0.Src)), (.d (.sl (List.map TE.row p0.Args)))])] st K) {r : Bool} (hr : Lt s_RBuiltExpr n p0 = some r) {K : PV → List Content → Prop} (h : K (.d (.bool r)) st) : Aw PR FT [(.agg [(.d (.int .i64 p0.Op)), (.d (.int .i64 p0.N)), (.d (.str p0.S)), (.d (.str p0.Name)), (.d (.str p0.Src)), (.d (.sl (List.map TE.row p0.Args)))])] st K := by
 refine Aw.of AH2 (Nat.le_of_ble_eq_true rfl) fun hwf => ?_
 rw [CE]
 refine AS ?_
 unfold Ym
 rw [Lt] at hr
 refine Al (Af ?_)
 unfold Y9
 refine GV (k := 0) rfl rfl (e_t eh) Bi (by rfl) ?_
 refine Ab e_c (Aa (Ae (Al (Af ?_))))
 unfold YN
 refine AA (e_t (em rfl eh)) (by rfl) ?_
 refine Ao (e_t eh) (gx 0 rfl) (by rfl) ?_
 refine T2 (cs := [(.d (.int .i64 p0.Op)), (.d (.int .i64 (0 : Int))), (.d (.str (⟨#[]⟩ : ByteArray))), (.d (.str (⟨#[]⟩ : ByteArray))), (.d (.str (⟨#[]⟩ : ByteArray))), (.ex [])]) (DZ (e_t eh) A2 rfl (Nat.le_of_ble_eq_true rfl) (by rfl) Ae4) (DX (e_t eh) A2 (by rfl) Ab6) ?_
 refine Dv (k := 1) rfl rfl ?_
 refine BB (e_t eh) (gx 1 rfl) (e_t (em rfl eh)) Bi rfl (Nat.le_of_ble_eq_true rfl) (by rfl) (cells' := [(.d (.int .i64 p0.Op)), (.d (.int .i64 (0 : Int))), (.d (.str (⟨#[]⟩ : ByteArray))), (.d (.str (⟨#[]⟩ : ByteArray))), (.d (.str (⟨#[]⟩ : ByteArray))), (.ex [])]) (by rfl) (BD rfl _ _) ?_
 refine Aa (Ae (Al (Af ?_)))
 unfold Zd
 refine Ab e_c (Aa (Ae ?_))
 refine BL (fun f st' => ∃ (v9 : Int), ∃ (v10 : ByteArray), ∃ (v11 : ByteArray), ∃ (v12 : ByteArray), ∃ (v13 : Int), Cg p0 s_RBuiltExpr n v9 v10 v11 v12 v13 = some r ∧ f 1 = (.ptr (st.length + 0) 0) ∧ f 3 = (.ptr (st.length + 1) 0) ∧ f 4 = (.d (.int .i64 v13)) ∧ st' = st ++ [(.box [(.d (.int .i64 p0.Op)), (.d (.int .i64 p0.N)), (.d (.str p0.S)), (.d (.str p0.Name)), (.d (.str p0.Src)), (.d (.sl (List.map TE.row p0.Args)))]), (.box [(.d (.int .i64 p0.Op)), (.d (.int .i64 v9)), (.d (.str v10)), (.d (.str v11)), (.d (.str v12)), (.ex [])])]) ?_ ?_
 rotate_left
 · rintro f st' ⟨v9, v10, v11, v12, v13, hr, h1, h3, h4, rfl⟩
   rw [Cg] at hr
   refine Al ?_
   refine BL (fun f st' => ∃ (v17 : Bool), Ht p0 s_RBuiltExpr n v13 v17 = some r ∧ f 1 = (.ptr (st.length + 0) 0) ∧ f 4 = (.d (.int .i64 v13)) ∧ f 136 = (.d (.bool v17)) ∧ st' = st ++ [(.box [(.d (.int .i64 p0.Op)), (.d (.int .i64 p0.N)), (.d (.str p0.S)), (.d (.str p0.Name)), (.d (.str p0.Src)), (.d (.sl (List.map TE.row p0.Args)))]), (.box [(.d (.int .i64 p0.Op)), (.d (.int .i64 v9)), (.d (.str v10)), (.d (.str v11)), (.d (.str v12)), (.ex [])])]) ?_ ?_
   rotate_left
   · rintro f st' ⟨v17, hr, h1, h4, h136, rfl⟩
     rw [Ht] at hr
     refine AB (e_t h136) hr (fun hr => ?_) (fun hr => ?_)
     · refine Al (Af ?_)
       unfold VM
       refine Ab e_c (Aa (Ae (AH (Ay ?_))))
       cases hr
       exact A5 (AE eh AG) (AK AF v_d) (As hwf) h
     refine AM (Ae (Al (Al (Af ?_))))
     unfold Vf
     refine Ab e_c (Aa (Ae ?_))
     refine A3 ?_
     refine Cy (fun m f st' => ∃ (v18 : Int), CD p0 s_RBuiltExpr v13 m v18 = some r ∧ f 1 = (.ptr (st.length + 0) 0) ∧ f 4 = (.d (.int .i64 v13)) ∧ f 5 = (.d (.int .i64 v18)) ∧ st' = st ++ [(.box [(.d (.int .i64 p0.Op)), (.d (.int .i64 p0.N)), (.d (.str p0.S)), (.d (.str p0.Name)), (.d (.str p0.Src)), (.d (.sl (List.map TE.row p0.Args)))]), (.box [(.d (.int .i64 p0.Op)), (.d (.int .i64 v9)), (.d (.str v10)), (.d (.str v11)), (.d (.str v12)), (.ex [])])]) n (Ghost.refl _) ⟨(0 : Int), hr, (em rfl h1), (em rfl h4), eh, rfl⟩ ?_
     rintro m f st' ⟨v18, hr, h1, h4, h5, rfl⟩
     cases m with
     | zero => cases hr
     | succ m_0 =>
       rw [CD] at hr
       generalize hrec_0 : CD p0 s_RBuiltExpr v13 m_0 = q0 at hr
       rw [IF] at hr
       unfold Vv
       refine Al (Al (Af ?_))
       unfold VP
       refine Ab (e_t h5) (Ab (e_t (em rfl h4)) ?_)
       refine Ap (e_t (em rfl eh)) (e_t eh) (Da ?_)
       refine Aa (Ae ?_)
       refine AB (e_t eh) hr (fun hr => ?_) (fun hr => ?_)
       rotate_left
       · refine Dj ?_
         refine A8 ?_
         refine A8 ?_
         refine Fo ?_
         refine Ae (Al (Af ?_))
         unfold Wo
         refine Ab e_c (Aa (Ae (AH ?_)))
         cases hr
         exact A5 (AE eh AG) (AK AF v_d) (As hwf) h
       refine AM (Ae (Al ?_))
       refine A3 ?_
       refine Al (Af ?_)
       unfold W0
       refine AA (e_t (Ac rfl (em rfl h1))) (by rfl) ?_
       refine Ao (e_t eh) (gx 0 rfl) (by rfl) ?_
       refine Ab (e_t (Ad rfl (em rfl h5))) ?_
       refine Bt (row := TE.row) (AN (e_t (em rfl eh)) Bo) (e_t eh) hr TE.row_eq (fun _ => rfl) (fun v19 hr => ?_)
       refine Ft (e_t eh) (Nat.le_of_ble_eq_true rfl) (by rfl) ?_
       obtain ⟨v20, hc_v20, hr⟩ := bind_some hr
       refine AY (Az (e_t eh) (Cw (Aq f_d (Aq f_d (Aq f_d (Aq f_d (Aq f_d (Aq f_d Dg))))))) A1) ?_
       refine H_s_RBuiltExpr v19 hc_v20 ?_
       refine CN (e_t eh) (Aa (Ae ?_))
       refine AB (e_t eh) hr (fun hr => ?_) (fun hr => ?_)
       rotate_left
       · refine AM ?_
         refine BQ ?_
         refine Ae (Af ?_)
         unfold V3
         refine Ab (e_t (Ak rfl (Ac rfl h5))) ?_
         refine Ap (e_t eh) e_c (B4 ?_)
         refine Ab (e_t eh) (Aa (Ae ?_))
         exact ⟨m_0, _, Nat.lt_succ_self m_0, Ghost.refl _, (IntKind.wrap .i64 (v18 + (1 : Int))), (by rw [hrec_0]; exact hr), (Ak rfl (Ad rfl (em rfl h1))), (Ak rfl (Ad rfl (em rfl h4))), eh, rfl⟩
       refine Al (Af ?_)
       unfold Vd
       refine Ab e_c (Aa (Ae (AH ?_)))
       refine Bw ?_
       refine Ay (Ay ?_)
       refine Bw ?_
       refine Ay ?_
       cases hr
       exact A5 (AE eh AG) (AK AF v_d) (As hwf) h
   refine Af ?_
   unfold WB
   refine Ba (fun f st' => ∃ (v14 : Bool), Hz p0 s_RBuiltExpr n v11 v12 v13 v14 = some r ∧ f 1 = (.ptr (st.length + 0) 0) ∧ f 3 = (.ptr (st.length + 1) 0) ∧ f 4 = (.d (.int .i64 v13)) ∧ f 115 = (.d (.bool v14)) ∧ st' = st ++ [(.box [(.d (.int .i64 p0.Op)), (.d (.int .i64 p0.N)), (.d (.str p0.S)), (.d (.str p0.Name)), (.d (.str p0.Src)), (.d (.sl (List.map TE.row p0.Args)))]), (.box [(.d (.int .i64 p0.Op)), (.d (.int .i64 v9)), (.d (.str v10)), (.d (.str v11)), (.d (.str v12)), (.ex [])])]) ?_ ?_
   · unfold Sk
     refine AA (e_t h1) (by rfl) ?_
     refine Ao (e_t eh) (gx 0 rfl) (by rfl) ?_
     refine AA (e_t (Ac rfl h3)) (by rfl) ?_
     refine Ao (e_t eh) (gx 1 rfl) (by rfl) ?_
     refine Ap (e_t (Ac rfl eh)) (e_t eh) (Ad6 ?_)
     refine Ab (e_t eh) ?_
     refine Ar eh hr (fun hr => ?_) (fun hr => ?_)
     · refine Ah eh (Ah (em rfl eh) (Ah (Ac rfl eh) (Ah (Ac rfl (em rfl eh)) (Ah (Ad rfl eh) (Am (e_t (Ad rfl (em rfl eh))) e_c ?_)))))
       refine Aa ?_
       exact ⟨true, hr, (Ak rfl (Ad rfl (em rfl h1))), (Ak rfl (Ad rfl (em rfl h3))), (Ak rfl (Ad rfl (em rfl h4))), eh, rfl⟩
     refine Aj eh ?_
     refine AA (e_t (Ad rfl (Ac rfl (em rfl h1)))) (by rfl) ?_
     refine Aj (em rfl eh) ?_
     refine Ao (e_t eh) (gx 0 rfl) (by rfl) ?_
     refine Aj (Ac rfl eh) ?_
     refine AA (e_t (Ak rfl (em rfl h3))) (by rfl) ?_
     refine Aj (Ac rfl (em rfl eh)) ?_
     refine Ao (e_t eh) (gx 1 rfl) (by rfl) ?_
     refine Aj (Ad rfl eh) ?_
     refine Ap (e_t (Ac rfl eh)) (e_t eh) (XU ?_)
     refine An (e_t (Ad rfl (em rfl eh))) (e_t eh) (Aa ?_)
     exact ⟨(!decide (p0.S = v10)), hr, (Ak rfl (Ad rfl (em rfl h1))), (Ak rfl (Ad rfl (em rfl h3))), (Ak rfl (Ad rfl (em rfl h4))), eh, rfl⟩
   rintro f st' ⟨v14, hr, h1, h3, h4, h115, rfl⟩
   rw [Hz] at hr
   refine Ba (fun f st' => ∃ (v15 : Bool), Ho p0 s_RBuiltExpr n v12 v13 v15 = some r ∧ f 1 = (.ptr (st.length + 0) 0) ∧ f 3 = (.ptr (st.length + 1) 0) ∧ f 4 = (.d (.int .i64 v13)) ∧ f 122 = (.d (.bool v15)) ∧ st' = st ++ [(.box [(.d (.int .i64 p0.Op)), (.d (.int .i64 p0.N)), (.d (.str p0.S)), (.d (.str p0.Name)), (.d (.str p0.Src)), (.d (.sl (List.map TE.row p0.Args)))]), (.box [(.d (.int .i64 p0.Op)), (.d (.int .i64 v9)), (.d (.str v10)), (.d (.str v11)), (.d (.str v12)), (.ex [])])]) ?_ ?_
   · unfold So
     refine Ab (e_t h115) ?_
     refine Ar eh hr (fun hr => ?_) (fun hr => ?_)
     · refine Ah eh (Ah (em rfl eh) (Ah (Ac rfl eh) (Ah (Ac rfl (em rfl eh)) (Ah (Ad rfl eh) (Am (e_t (Ad rfl (em rfl eh))) e_c ?_)))))
       refine Aa ?_
       exact ⟨true, hr, (Ad rfl (Ad rfl h1)), (Ad rfl (Ad rfl h3)), (Ad rfl (Ad rfl h4)), eh, rfl⟩
     refine Aj eh ?_
     refine AA (e_t (Ac rfl h1)) (by rfl) ?_
     refine Aj (em rfl eh) ?_
     refine Ao (e_t eh) (gx 0 rfl) (by rfl) ?_
     refine Aj (Ac rfl eh) ?_
     refine AA (e_t (Ad rfl h3)) (by rfl) ?_
     refine Aj (Ac rfl (em rfl eh)) ?_
     refine Ao (e_t eh) (gx 1 rfl) (by rfl) ?_
     refine Aj (Ad rfl eh) ?_
     refine Ap (e_t (Ac rfl eh)) (e_t eh) (XU ?_)
     refine An (e_t (Ad rfl (em rfl eh))) (e_t eh) (Aa ?_)
     exact ⟨(!decide (p0.Name = v11)), hr, (Ad rfl (Ad rfl h1)), (Ad rfl (Ad rfl h3)), (Ad rfl (Ad rfl h4)), eh, rfl⟩
   rintro f st' ⟨v15, hr, h1, h3, h4, h122, rfl⟩
   rw [Ho] at hr
   refine Ba (fun f st' => ∃ (v16 : Bool), Hh p0 s_RBuiltExpr n v13 v16 = some r ∧ f 1 = (.ptr (st.length + 0) 0) ∧ f 4 = (.d (.int .i64 v13)) ∧ f 129 = (.d (.bool v16)) ∧ st' = st ++ [(.box [(.d (.int .i64 p0.Op)), (.d (.int .i64 p0.N)), (.d (.str p0.S)), (.d (.str p0.Name)), (.d (.str p0.Src)), (.d (.sl (List.map TE.row p0.Args)))]), (.box [(.d (.int .i64 p0.Op)), (.d (.int .i64 v9)), (.d (.str v10)), (.d (.str v11)), (.d (.str v12)), (.ex [])])]) ?_ ?_
   · unfold S2
     refine Ab (e_t h122) ?_
     refine Ar eh hr (fun hr => ?_) (fun hr => ?_)
     · refine Ah eh (Ah (em rfl eh) (Ah (Ac rfl eh) (Ah (Ac rfl (em rfl eh)) (Ah (Ad rfl eh) (Am (e_t (Ad rfl (em rfl eh))) e_c ?_)))))
       refine Aa ?_
       exact ⟨true, hr, (Ad rfl (Ad rfl h1)), (Ad rfl (Ad rfl h4)), eh, rfl⟩
     refine Aj eh ?_
     refine AA (e_t (Ac rfl h1)) (by rfl) ?_
     refine Aj (em rfl eh) ?_
     refine Ao (e_t eh) (gx 0 rfl) (by rfl) ?_
     refine Aj (Ac rfl eh) ?_
     refine AA (e_t (Ad rfl h3)) (by rfl) ?_
     refine Aj (Ac rfl (em rfl eh)) ?_
     refine Ao (e_t eh) (gx 1 rfl) (by rfl) ?_
     refine Aj (Ad rfl eh) ?_
     refine Ap (e_t (Ac rfl eh)) (e_t eh) (XU ?_)
     refine An (e_t (Ad rfl (em rfl eh))) (e_t eh) (Aa ?_)
     exact ⟨(!decide (p0.Src = v12)), hr, (Ad rfl (Ad rfl h1)), (Ad rfl (Ad rfl h4)), eh, rfl⟩
   rintro f st' ⟨v16, hr, h1, h4, h129, rfl⟩
   rw [Hh] at hr
   unfold SO
   refine Ab (e_t h129) ?_
   refine Ar eh hr (fun hr => ?_) (fun hr => ?_)
   · refine Ah eh (Ah (em rfl eh) (Ah (Ac rfl eh) (Ah (Ac rfl (em rfl eh)) (Ah (Ad rfl eh) (Am (e_t (Ad rfl (em rfl eh))) e_c ?_)))))
     refine Aa (Ae ?_)
     exact ⟨true, hr, (Ad rfl (Ad rfl h1)), (Ad rfl (Ad rfl h4)), eh, rfl⟩
   refine Aj eh ?_
   refine AA (e_t (Ac rfl h1)) (by rfl) ?_
   refine Aj (em rfl eh) ?_
   refine Ao (e_t eh) (gx 0 rfl) (by rfl) ?_
   refine Aj (Ac rfl eh) ?_
   refine Bc (row := TE.row) (AN (e_t eh) Bo) ?_
   refine Aj (Ac rfl (em rfl eh)) (Ab (e_t (Ad rfl (em rfl h4))) (Aj (Ad rfl eh) ?_))
   refine Ap (e_t (em rfl eh)) (e_t eh) (Ad6 ?_)
   refine An (e_t (Ad rfl (em rfl eh))) (e_t eh) (Aa (Ae ?_))
   exact ⟨(!decide ((p0.Args.length : Int) = v13)), hr, (Ad rfl (Ad rfl h1)), (Ad rfl (Ad rfl h4)), eh, rfl⟩
 refine A3 ?_
 refine Al (Af ?_)
 unfold Zg
 refine AA (e_t (Ad rfl (Ac rfl eh))) (by rfl) ?_
 refine Ao (e_t eh) (gx 0 rfl) (by rfl) ?_
 refine Ap (e_t eh) e_c (Ci ?_)
 refine Ab (e_t eh) (Aa (Ae ?_))
 refine AB (e_t eh) hr (fun hr => ?_) (fun hr => ?_)
 · refine Af ?_
   unfold Y7
   refine AA (e_t (Ak rfl (Ac rfl eh))) (by rfl) ?_
   refine Ao (e_t eh) (gx 0 rfl) (by rfl) ?_
   refine Bl7 (e_t eh) (Bk0 e_c (Ag2 ?_))
   refine AA (e_t (Ad rfl (Ad rfl eh))) (by rfl) ?_
   refine BB (e_t eh) (gx 1 rfl) (e_t (em rfl eh)) A2 rfl (Nat.le_of_ble_eq_true rfl) (by rfl) (cells' := [(.d (.int .i64 p0.Op)), (.d (.int .i64 (max p0.N (0 : Int)))), (.d (.str (⟨#[]⟩ : ByteArray))), (.d (.str (⟨#[]⟩ : ByteArray))), (.d (.str (⟨#[]⟩ : ByteArray))), (.ex [])]) (by rfl) (BD rfl _ _) ?_
   refine Aa ?_
   refine BQ ?_
   refine Ae ?_
   exact ⟨(max p0.N (0 : Int)), (⟨#[]⟩ : ByteArray), (⟨#[]⟩ : ByteArray), (⟨#[]⟩ : ByteArray), (0 : Int), hr, (Ak rfl (Ad rfl (Ac rfl eh))), (Ak rfl (em rfl eh)), (Ad rfl (Ad rfl eh)), rfl⟩
 refine Al (Af ?_)
 unfold YR
 refine AA (e_t (Ak rfl (Ac rfl eh))) (by rfl) ?_
 refine Ao (e_t eh) (gx 0 rfl) (by rfl) ?_
 refine Ap (e_t eh) e_c (Ci ?_)
 refine Ab (e_t eh) (Aa (Ae ?_))
 refine AB (e_t eh) hr (fun hr => ?_) (fun hr => ?_)
 · refine Al (Af ?_)
   unfold YU
   refine AA (e_t (Ak rfl (Ad rfl (Ac rfl eh)))) (by rfl) ?_
   refine Ao (e_t eh) (gx 0 rfl) (by rfl) ?_
   refine AA (e_t (Ak rfl (Ac rfl (em rfl eh)))) (by rfl) ?_
   refine BB (e_t eh) (gx 1 rfl) (e_t (em rfl eh)) A2 rfl (Nat.le_of_ble_eq_true rfl) (by rfl) (cells' := [(.d (.int .i64 p0.Op)), (.d (.int .i64 (0 : Int))), (.d (.str p0.S)), (.d (.str (⟨#[]⟩ : ByteArray))), (.d (.str (⟨#[]⟩ : ByteArray))), (.ex [])]) (by rfl) (BD rfl _ _) ?_
   refine Aa (Ae (Al (Af ?_)))
   unfold YM
   refine AA (e_t (Ai rfl (em rfl eh))) (by rfl) ?_
   refine Ao (e_t eh) (gx 0 rfl) (by rfl) ?_
   refine I2 (e_t eh) ?_
   refine Ap (e_t eh) e_c (B6 ?_)
   refine Aa (Ae ?_)
   refine AB (e_t eh) hr (fun hr => ?_) (fun hr => ?_)
   rotate_left
   · refine AM ?_
     refine BQ ?_
     refine Ae ?_
     exact ⟨(0 : Int), p0.S, (⟨#[]⟩ : ByteArray), (⟨#[]⟩ : ByteArray), (0 : Int), hr, (Ai rfl (Ad rfl (em rfl eh))), (Ak rfl (Ad rfl (Ad rfl eh))), (Ak rfl (Ad rfl (Ac rfl (em rfl eh)))), rfl⟩
   refine Al (Af ?_)
   unfold Za
   refine Ab e_c (Aa (Ae (AH ?_)))
   refine Bw ?_
   refine Ay ?_
   cases hr
   exact A5 (AE eh AG) (AK AF v_d) (As hwf) h
 refine Al (Af ?_)
 unfold YQ
 refine AA (e_t (Ak rfl (Ad rfl (Ac rfl eh)))) (by rfl) ?_
 refine Ao (e_t eh) (gx 0 rfl) (by rfl) ?_
 refine Ap (e_t eh) e_c (Ci ?_)
 refine Ab (e_t eh) (Aa (Ae ?_))
 refine AB (e_t eh) hr (fun hr => ?_) (fun hr => ?_)
 · refine Af ?_
   unfold Wy
   refine AA (e_t (Ai rfl (Ac rfl eh))) (by rfl) ?_
   refine Ao (e_t eh) (gx 0 rfl) (by rfl) ?_
   refine Bl7 (e_t eh) (Bk0 e_c (Ag2 ?_))
   refine Bl7 (e_t eh) (BQ1 e_c (Ag2 ?_))
   refine AA (e_t (Ai rfl (em rfl eh))) (by rfl) ?_
   refine BB (e_t eh) (gx 1 rfl) (e_t (em rfl eh)) A2 rfl (Nat.le_of_ble_eq_true rfl) (by rfl) (cells' := [(.d (.int .i64 p0.Op)), (.d (.int .i64 (min (max p0.N (0 : Int)) (1 : Int)))), (.d (.str (⟨#[]⟩ : ByteArray))), (.d (.str (⟨#[]⟩ : ByteArray))), (.d (.str (⟨#[]⟩ : ByteArray))), (.ex [])]) (by rfl) (BD rfl _ _) ?_
   refine Aa ?_
   refine BQ ?_
   refine Ae ?_
   exact ⟨(min (max p0.N (0 : Int)) (1 : Int)), (⟨#[]⟩ : ByteArray), (⟨#[]⟩ : ByteArray), (⟨#[]⟩ : ByteArray), (0 : Int), hr, (Ai rfl (Ad rfl (Ac rfl (em rfl eh)))), (Ai rfl (Ac rfl eh)), (Ai rfl (em rfl eh)), rfl⟩
 refine BL (fun f st' => ∃ (v2 : Bool), FN p0 s_RBuiltExpr n v2 = some r ∧ f 1 = (.ptr (st.length + 0) 0) ∧ f 3 = (.ptr (st.length + 1) 0) ∧ f 4 = (.d (.int .i64 (0 : Int))) ∧ f 37 = (.d (.bool v2)) ∧ st' = st ++ [(.box [(.d (.int .i64 p0.Op)), (.d (.int .i64 p0.N)), (.d (.str p0.S)), (.d (.str p0.Name)), (.d (.str p0.Src)), (.d (.sl (List.map TE.row p0.Args)))]), (.box [(.d (.int .i64 p0.Op)), (.d (.int .i64 (0 : Int))), (.d (.str (⟨#[]⟩ : ByteArray))), (.d (.str (⟨#[]⟩ : ByteArray))), (.d (.str (⟨#[]⟩ : ByteArray))), (.ex [])])]) ?_ ?_
 · refine Af ?_
   unfold WX
   refine Ba (fun f st' => ∃ (v1 : Bool), Hf p0 s_RBuiltExpr n v1 = some r ∧ f 1 = (.ptr (st.length + 0) 0) ∧ f 3 = (.ptr (st.length + 1) 0) ∧ f 4 = (.d (.int .i64 (0 : Int))) ∧ f 45 = (.d (.bool v1)) ∧ st' = st ++ [(.box [(.d (.int .i64 p0.Op)), (.d (.int .i64 p0.N)), (.d (.str p0.S)), (.d (.str p0.Name)), (.d (.str p0.Src)), (.d (.sl (List.map TE.row p0.Args)))]), (.box [(.d (.int .i64 p0.Op)), (.d (.int .i64 (0 : Int))), (.d (.str (⟨#[]⟩ : ByteArray))), (.d (.str (⟨#[]⟩ : ByteArray))), (.d (.str (⟨#[]⟩ : ByteArray))), (.ex [])])]) ?_ ?_
   · unfold SN
     refine AA (e_t (Ai rfl (Ac rfl eh))) (by rfl) ?_
     refine Ao (e_t eh) (gx 0 rfl) (by rfl) ?_
     refine Ap (e_t eh) e_c (Ci ?_)
     refine Ab (e_t eh) ?_
     refine Ar eh hr (fun hr => ?_) (fun hr => ?_)
     · refine Ah eh (Ah (em rfl eh) (Ah (Ac rfl eh) (Am (e_t (Ac rfl (em rfl eh))) e_c (Aa ?_))))
       exact ⟨true, hr, (Ai rfl (Ak rfl (Ac rfl (em rfl eh)))), (Ai rfl (Ad rfl (Ac rfl eh))), (Ai rfl (Ad rfl (em rfl eh))), eh, rfl⟩
     refine Aj eh ?_
     refine AA (e_t (Ai rfl (Ad rfl (Ac rfl (em rfl eh))))) (by rfl) ?_
     refine Aj (em rfl eh) ?_
     refine Ao (e_t eh) (gx 0 rfl) (by rfl) ?_
     refine Aj (Ac rfl eh) ?_
     refine Ap (e_t eh) e_c (Ci ?_)
     refine An (e_t (Ac rfl (em rfl eh))) (e_t eh) (Aa ?_)
     exact ⟨(decide (p0.Op = (5 : Int))), hr, (Ai rfl (Ak rfl (Ac rfl (em rfl eh)))), (Ai rfl (Ad rfl (Ac rfl eh))), (Ai rfl (Ad rfl (em rfl eh))), eh, rfl⟩
   rintro f st' ⟨v1, hr, h1, h3, h4, h45, rfl⟩
   rw [Hf] at hr
   refine Bh ?_
   unfold Sx
   refine Ab (e_t h45) ?_
   refine Ar eh hr (fun hr => ?_) (fun hr => ?_)
   · refine Ah eh (Ah (em rfl eh) (Ah (Ac rfl eh) (Ah (Ac rfl (em rfl eh)) ?_)))
     refine A6 eh ?_
     refine A6 (em rfl eh) ?_
     refine A6 (Ac rfl eh) ?_
     refine Ah (Ad rfl (Ac rfl (em rfl eh))) (Am (e_t (Ad rfl (Ad rfl eh))) e_c (Aa ?_))
     unfold G6
     refine Ab (e_t eh) (Aa (Ae ?_))
     exact ⟨true, hr, (Ak rfl (Ad rfl h1)), (Ak rfl (Ad rfl h3)), (Ak rfl (Ad rfl h4)), eh, rfl⟩
   refine Aj eh ?_
   refine AA (e_t (Ac rfl h1)) (by rfl) ?_
   refine Aj (em rfl eh) ?_
   refine Ao (e_t eh) (gx 0 rfl) (by rfl) ?_
   refine Aj (Ac rfl eh) ?_
   refine Ap (e_t eh) e_c (E5 ?_)
   refine Aj (Ac rfl (em rfl eh)) (Ab (e_t eh) ?_)
   refine Ar eh hr (fun hr => ?_) (fun hr => ?_)
   rotate_left
   · refine Ah eh (Ah (em rfl eh) (Ah (Ac rfl eh) (Aj (Ad rfl (Ad rfl eh)) (An (e_t (Ac rfl (em rfl eh))) e_c (An (e_t (Ak rfl (em rfl eh))) (e_t eh) ?_)))))
     refine Aa ?_
     unfold G6
     refine Ab (e_t eh) (Aa (Ae ?_))
     exact ⟨false, hr, (Ak rfl (Ad rfl (em rfl h1))), (Ak rfl (Ad rfl (em rfl h3))), (Ak rfl (Ad rfl (em rfl h4))), eh, rfl⟩
   refine Aj eh ?_
   refine AA (e_t (Ad rfl (Ac rfl (em rfl h1)))) (by rfl) ?_
   refine Aj (em rfl eh) ?_
   refine Ao (e_t eh) (gx 0 rfl) (by rfl) ?_
   refine Aj (Ac rfl eh) ?_
   refine Ap (e_t eh) e_c (M5 ?_)
   refine Aj (Ad rfl (Ad rfl eh)) (Am (e_t (Ac rfl (em rfl eh))) (e_t eh) (An (e_t (Ak rfl (em rfl eh))) (e_t eh) (Aa ?_)))
   unfold G6
   refine Ab (e_t eh) (Aa (Ae ?_))
   exact ⟨(decide (p0.Op ≤ (24 : Int))), hr, (Ak rfl (Ad rfl (em rfl h1))), (Ak rfl (Ad rfl (em rfl h3))), (Ak rfl (Ad rfl (em rfl h4))), eh, rfl⟩
 rintro f st' ⟨v2, hr, h1, h3, h4, h37, rfl⟩
 rw [FN] at hr
 refine AB (e_t h37) hr (fun hr => ?_) (fun hr => ?_)
 rotate_left
 · refine BL (fun f st' => ∃ (v8 : Bool), Hk p0 s_RBuiltExpr n v8 = some r ∧ f 1 = (.ptr (st.length + 0) 0) ∧ f 3 = (.ptr (st.length + 1) 0) ∧ f 86 = (.d (.bool v8)) ∧ st' = st ++ [(.box [(.d (.int .i64 p0.Op)), (.d (.int .i64 p0.N)), (.d (.str p0.S)), (.d (.str p0.Name)), (.d (.str p0.Src)), (.d (.sl (List.map TE.row p0.Args)))]), (.box [(.d (.int .i64 p0.Op)), (.d (.int .i64 (0 : Int))), (.d (.str (⟨#[]⟩ : ByteArray))), (.d (.str (⟨#[]⟩ : ByteArray))), (.d (.str (⟨#[]⟩ : ByteArray))), (.ex [])])]) ?_ ?_
   · refine Af ?_
     unfold WW
     refine Bh ?_
     unfold SB
     refine AA (e_t h1) (by rfl) ?_
     refine Ao (e_t eh) (gx 0 rfl) (by rfl) ?_
     refine Ap (e_t eh) e_c (E5 ?_)
     refine Ab (e_t eh) ?_
     refine Ar eh hr (fun hr => ?_) (fun hr => ?_)
     rotate_left
     · refine Ah eh (Ah (em rfl eh) (Ah (Ac rfl eh) (An (e_t (Ac rfl (em rfl eh))) e_c (Aa ?_))))
       unfold JN
       refine Ab (e_t eh) (Aa (Ae ?_))
       exact ⟨false, hr, (Ak rfl (Ac rfl h1)), (Ak rfl (Ac rfl h3)), eh, rfl⟩
     refine Aj eh ?_
     refine AA (e_t (Ad rfl (em rfl h1))) (by rfl) ?_
     refine Aj (em rfl eh) ?_
     refine Ao (e_t eh) (gx 0 rfl) (by rfl) ?_
     refine Aj (Ac rfl eh) ?_
     refine Ap (e_t eh) e_c (M5 ?_)
     refine Am (e_t (Ac rfl (em rfl eh))) (e_t eh) (Aa ?_)
     unfold JN
     refine Ab (e_t eh) (Aa (Ae ?_))
     exact ⟨(decide (p0.Op ≤ (18 : Int))), hr, (Ak rfl (Ac rfl h1)), (Ak rfl (Ac rfl h3)), eh, rfl⟩
   rintro f st' ⟨v8, hr, h1, h3, h86, rfl⟩
   rw [Hk] at hr
   refine AB (e_t h86) hr (fun hr => ?_) (fun hr => ?_)
   · refine Af ?_
     unfold Wv
     refine Ab e_c (Aa ?_)
     refine BQ ?_
     refine Ae ?_
     exact ⟨(0 : Int), (⟨#[]⟩ : ByteArray), (⟨#[]⟩ : ByteArray), (⟨#[]⟩ : ByteArray), (2 : Int), hr, (em rfl h1), (em rfl h3), eh, rfl⟩
   refine Al (Af ?_)
   unfold Vo
   refine Bh ?_
   unfold Tm
   refine AA (e_t h1) (by rfl) ?_
   refine Ao (e_t eh) (gx 0 rfl) (by rfl) ?_
   refine Ap (e_t eh) e_c (Ci ?_)
   refine Ab (e_t eh) ?_
   refine Ar eh hr (fun hr => ?_) (fun hr => ?_)
   · refine Ah eh (Ah (em rfl eh) (Ah (Ac rfl eh) (Am (e_t (Ac rfl (em rfl eh))) e_c (Aa ?_))))
     unfold JT
     refine Ab (e_t eh) (Aa (Ae ?_))
     refine DC (e_t eh) ?_
     refine Af ?_
     unfold Mo
     refine Ab e_c (Aa ?_)
     refine BQ ?_
     refine Ae ?_
     exact ⟨(0 : Int), (⟨#[]⟩ : ByteArray), (⟨#[]⟩ : ByteArray), (⟨#[]⟩ : ByteArray), (1 : Int), hr, (Ak rfl (Ac rfl (em rfl h1))), (Ak rfl (Ac rfl (em rfl h3))), eh, rfl⟩
   refine Aj eh ?_
   refine AA (e_t (Ad rfl (em rfl h1))) (by rfl) ?_
   refine Aj (em rfl eh) ?_
   refine Ao (e_t eh) (gx 0 rfl) (by rfl) ?_
   refine Aj (Ac rfl eh) ?_
   refine Ap (e_t eh) e_c (Ci ?_)
   refine An (e_t (Ac rfl (em rfl eh))) (e_t eh) (Aa ?_)
   unfold JT
   refine Ab (e_t eh) (Aa (Ae ?_))
   refine AB (e_t eh) hr (fun hr => ?_) (fun hr => ?_)
   · refine Af ?_
     unfold Mo
     refine Ab e_c (Aa ?_)
     refine BQ ?_
     refine Ae ?_
     exact ⟨(0 : Int), (⟨#[]⟩ : ByteArray), (⟨#[]⟩ : ByteArray), (⟨#[]⟩ : ByteArray), (1 : Int), hr, (Ak rfl (Ac rfl (em rfl h1))), (Ak rfl (Ac rfl (em rfl h3))), eh, rfl⟩
   refine Al (Af ?_)
   unfold Wu
   refine Ab e_c (Aa (Ae (AH ?_)))
   refine Bw ?_
   refine Ay ?_
   cases hr
   exact A5 (AE eh AG) (AK AF v_d) (As hwf) h
 refine Al (Af ?_)
 unfold Vi
 refine AA (e_t h1) (by rfl) ?_
 refine Ao (e_t eh) (gx 0 rfl) (by rfl) ?_
 refine AA (e_t (Ac rfl h3)) (by rfl) ?_
 refine BB (e_t eh) (gx 1 rfl) (e_t (em rfl eh)) A2 rfl (Nat.le_of_ble_eq_true rfl) (by rfl) (cells' := [(.d (.int .i64 p0.Op)), (.d (.int .i64 (0 : Int))), (.d (.str (⟨#[]⟩ : ByteArray))), (.d (.str p0.Name)), (.d (.str (⟨#[]⟩ : ByteArray))), (.ex [])]) (by rfl) (BD rfl _ _) ?_
 refine Aa (Ae (Al (Al (Af ?_))))
 unfold We
 refine AA (e_t (Ac rfl (em rfl h1))) (by rfl) ?_
 refine Ao (e_t eh) (gx 0 rfl) (by rfl) ?_
 obtain ⟨v3, hc_v3, hr⟩ := bind_some hr
 refine AY (Az (e_t eh) AF A1) ?_
 refine MB n p0.Name hc_v3 ?_
 refine CN (e_t eh) (Aa (Ae ?_))
 refine AB (e_t eh) hr (fun hr => ?_) (fun hr => ?_)
 · refine Al (Af ?_)
   unfold Wl
   refine Ab e_c (Aa (Ae (AH (Ay ?_))))
   refine Bw ?_
   refine Ay ?_
   cases hr
   exact A5 (AE eh AG) (AK AF v_d) (As hwf) h
 refine AM (Ae ?_)
 refine BL (fun f st' => ∃ (v5 : ByteArray), Hy p0 s_RBuiltExpr n v5 = some r ∧ f 1 = (.ptr (st.length + 0) 0) ∧ f 3 = (.ptr (st.length + 1) 0) ∧ f 4 = (.d (.int .i64 (0 : Int))) ∧ st' = st ++ [(.box [(.d (.int .i64 p0.Op)), (.d (.int .i64 p0.N)), (.d (.str p0.S)), (.d (.str p0.Name)), (.d (.str p0.Src)), (.d (.sl (List.map TE.row p0.Args)))]), (.box [(.d (.int .i64 p0.Op)), (.d (.int .i64 (0 : Int))), (.d (.str v5)), (.d (.str p0.Name)), (.d (.str (⟨#[]⟩ : ByteArray))), (.ex [])])]) ?_ ?_
 · refine Al (Af ?_)
   unfold Wp
   refine AA (e_t (Ad rfl (Ac rfl (em rfl h1)))) (by rfl) ?_
   refine Ao (e_t eh) (gx 0 rfl) (by rfl) ?_
   refine Ap (e_t eh) e_c (Ci ?_)
   refine Aa (Ae ?_)
   refine AB (e_t eh) hr (fun hr => ?_) (fun hr => ?_)
   rotate_left
   · refine AM (Ae ?_)
     exact ⟨(⟨#[]⟩ : ByteArray), hr, (Ak rfl (Ac rfl h1)), (Ak rfl (Ac rfl h3)), (Ak rfl (Ac rfl h4)), rfl⟩
   refine Al (Af ?_)
   unfold Wc
   refine AA (e_t (Ak rfl (Ac rfl h1))) (by rfl) ?_
   refine Ao (e_t eh) (gx 0 rfl) (by rfl) ?_
   refine AA (e_t (Ak rfl (Ad rfl h3))) (by rfl) ?_
   refine BB (e_t eh) (gx 1 rfl) (e_t (em rfl eh)) A2 rfl (Nat.le_of_ble_eq_true rfl) (by rfl) (cells' := [(.d (.int .i64 p0.Op)), (.d (.int .i64 (0 : Int))), (.d (.str p0.S)), (.d (.str p0.Name)), (.d (.str (⟨#[]⟩ : ByteArray))), (.ex [])]) (by rfl) (BD rfl _ _) ?_
   refine Aa (Ae (Al (Af ?_)))
   unfold V8
   refine AA (e_t (Ak rfl (Ad rfl (em rfl h1)))) (by rfl) ?_
   refine Ao (e_t eh) (gx 0 rfl) (by rfl) ?_
   obtain ⟨v4, hc_v4, hr⟩ := bind_some hr
   refine AY (Az (e_t eh) AF A1) ?_
   refine MB n p0.S hc_v4 ?_
   refine CN (e_t eh) (Aa (Ae ?_))
   refine AB (e_t eh) hr (fun hr => ?_) (fun hr => ?_)
   rotate_left
   · refine AM (Ae ?_)
     exact ⟨p0.S, hr, (Ai rfl (em rfl h1)), (Ai rfl (em rfl h3)), (Ai rfl (em rfl h4)), rfl⟩
   refine Al (Af ?_)
   unfold Vm
   refine Ab e_c (Aa (Ae (AH (Ay ?_))))
   refine Bw ?_
   refine Ay ?_
   cases hr
   exact A5 (AE eh AG) (AK AF v_d) (As hwf) h
 rintro f st' ⟨v5, hr, h1, h3, h4, rfl⟩
 rw [Hy] at hr
 refine Al (Af ?_)
 unfold Vj
 refine AA (e_t h1) (by rfl) ?_
 refine Ao (e_t eh) (gx 0 rfl) (by rfl) ?_
 refine Ap (e_t eh) e_c (B6 ?_)
 refine Aa (Ae ?_)
 refine AB (e_t eh) hr (fun hr => ?_) (fun hr => ?_)
 rotate_left
 · refine AM ?_
   refine BQ ?_
   refine Ae ?_
   exact ⟨(0 : Int), v5, p0.Name, (⟨#[]⟩ : ByteArray), (0 : Int), hr, (Ac rfl (em rfl h1)), (Ac rfl (em rfl h3)), (Ac rfl (em rfl h4)), rfl⟩
 refine Al (Af ?_)
 unfold WZ
 refine AA (e_t (Ac rfl (em rfl h1))) (by rfl) ?_
 refine Ao (e_t eh) (gx 0 rfl) (by rfl) ?_
 refine AA (e_t (Ad rfl (em rfl h3))) (by rfl) ?_
 refine BB (e_t eh) (gx 1 rfl) (e_t (em rfl eh)) A2 rfl (Nat.le_of_ble_eq_true rfl) (by rfl) (cells' := [(.d (.int .i64 p0.Op)), (.d (.int .i64 (0 : Int))), (.d (.str v5)), (.d (.str p0.Name)), (.d (.str p0.Src)), (.ex [])]) (by rfl) (BD rfl _ _) ?_
 refine Aa (Ae (Al (Af ?_)))
 unfold V1
 refine Ab e_c (Aa (Ae ?_))
 refine BL (fun f st' => ∃ (v6 : Int), Hs p0 s_RBuiltExpr n v5 v6 = some r ∧ f 1 = (.ptr (st.length + 0) 0) ∧ f 3 = (.ptr (st.length + 1) 0) ∧ f 4 = (.d (.int .i64 v6)) ∧ st' = st ++ [(.box [(.d (.int .i64 p0.Op)), (.d (.int .i64 p0.N)), (.d (.str p0.S)), (.d (.str p0.Name)), (.d (.str p0.Src)), (.d (.sl (List.map TE.row p0.Args)))]), (.box [(.d (.int .i64 p0.Op)), (.d (.int .i64 (0 : Int))), (.d (.str v5)), (.d (.str p0.Name)), (.d (.str p0.Src)), (.ex [])])]) ?_ ?_
 · refine Al (Af ?_)
   unfold Vu
   refine AA (e_t (Ad rfl (Ac rfl (em rfl h1)))) (by rfl) ?_
   refine Ao (e_t eh) (gx 0 rfl) (by rfl) ?_
   refine Ap (e_t eh) e_c (Ci ?_)
   refine Aa (Ae ?_)
   refine AB (e_t eh) hr (fun hr => ?_) (fun hr => ?_)
   rotate_left
   · refine AM (Ae ?_)
     exact ⟨(2 : Int), hr, (Ak rfl (Ac rfl h1)), (Ak rfl (Ac rfl h3)), (Ac rfl (em rfl eh)), rfl⟩
   refine Af ?_
   unfold Wz
   refine Ab e_c (Aa (Ae ?_))
   exact ⟨(1 : Int), hr, (Ak rfl (Ac rfl (em rfl h1))), (Ak rfl (Ac rfl (em rfl h3))), eh, rfl⟩
 rintro f st' ⟨v6, hr, h1, h3, h4, rfl⟩
 rw [Hs] at hr
 refine Al (Af ?_)
 unfold VN
 refine AA (e_t h1) (by rfl) ?_
 refine Ao (e_t eh) (gx 0 rfl) (by rfl) ?_
 obtain ⟨v7, hc_v7, hr⟩ := bind_some hr
 refine AY (Az (e_t eh) AF A1) ?_
 refine MB n p0.Src hc_v7 ?_
 refine CN (e_t eh) (Aa (Ae ?_))
 refine AB (e_t eh) hr (fun hr => ?_) (fun hr => ?_)
 rotate_left
 · refine AM ?_
   refine BQ ?_
   refine Ae ?_
   exact ⟨(0 : Int), v5, p0.Name, p0.Src, v6, hr, (Ad rfl h1), (Ad rfl h3), (Ad rfl h4), rfl⟩
 refine Al (Af ?_)
 unfold Vn
 refine Ab e_c (Aa (Ae (AH ?_)))
 refine Bw ?_
 refine Ay ?_
 cases hr
 exact A5 (AE eh AG) (AK AF v_d) (As hwf) h
def CL : Nat → TE → Option Bool
 | 0, _ => none
 | n + 1, p0 => Lt (CL n) n p0
theorem Aq6 : ∀ n : Nat, (∀ (p0 : TE) {r : Bool}, CL n p0 = some r → ∀ {st : List Content} {K : PV → List Content → Prop} (h : K (.d (.bool r)) st), Aw PR FT [(.agg [(.d (.int .i64 p0.Op)), (.d (.int .i64 p0.N)), (.d (.str p0.S)), (.d (.str p0.Name)), (.d (.str p0.Src)), (.d (.sl (List.map TE.row p0.Args)))])] st K)
 | 0 => fun _ _ hr => (by rw [CL] at hr; cases hr)
 | n + 1 => fun p0 _ hr _ _ h => Bo4 (CL n) n p0 (Aq6 n) (by rw [CL] at hr; exact hr) h
theorem Bu1 (n : Nat) (p0 : TE) {r : Bool} (hr : CL n p0 = some r) {K : PV → List Content → Prop} (h : K (.d (.bool r)) st) : Aw PR FT [(.agg [(.d (.int .i64 p0.Op)), (.d (.int .i64 p0.N)), (.d (.str p0.S)), (.d (.str p0.Name)), (.d (.str p0.Src)), (.d (.sl (List.map TE.row p0.Args)))])] st K := (Aq6 n) p0 hr h
end Go.Ax
