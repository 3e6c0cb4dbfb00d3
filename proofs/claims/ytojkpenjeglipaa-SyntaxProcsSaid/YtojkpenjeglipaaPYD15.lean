import Derived.Test.YtojkpenjeglipaaPYT
import Derived.Test.YtojkpenjeglipaaPCVX
import Derived.Test.YtojkpenjeglipaaPCPrim
import Derived.Test.YtojkpenjeglipaaPYD11
set_option linter.unusedVariables false
set_option linter.unusedSimpArgs false
namespace Go.Ax
attribute [local irreducible] BQ EX FK Bg CQ FI B8 Le Ii upd ev u0 Dw frz A9 EK mmD bnd B2 FD Dq CR G3 HS Hg cutV JT Cy
variable {st : List Content}
def Eh (p0 : TE) (s_RBuiltExpr : TE → Option Bool) (v13 : Int) (q0 : Int → Option Bool) (v18 : Int) : Option Bool :=
 (bif (decide (v18 < v13)) then ((Dd p0.Args v18).bind fun v19 => ((s_RBuiltExpr v19).bind fun v20 => (bif (!v20) then some false else q0 (IntKind.wrap .i64 (v18 + (1 : Int)))))) else some true)
def Bv (p0 : TE) (s_RBuiltExpr : TE → Option Bool) (v13 : Int) : Nat → Int → Option Bool
 | 0, _ => none
 | m + 1, v18 => Eh p0 s_RBuiltExpr v13 (Bv p0 s_RBuiltExpr v13 m) v18
def DV (p0 : TE) (s_RBuiltExpr : TE → Option Bool) (n : Nat) (v13 : Int) (v17 : Bool) : Option Bool :=
 (bif v17 then some false else (Bv p0 s_RBuiltExpr v13 n (0 : Int)))
def DU (p0 : TE) (s_RBuiltExpr : TE → Option Bool) (n : Nat) (v13 : Int) (v16 : Bool) : Option Bool :=
 (bif v16 then (DV p0 s_RBuiltExpr n v13 true) else (DV p0 s_RBuiltExpr n v13 (!decide ((p0.Args.length : Int) = v13))))
def DR (p0 : TE) (s_RBuiltExpr : TE → Option Bool) (n : Nat) (v12 : ByteArray) (v13 : Int) (v15 : Bool) : Option Bool :=
 (bif v15 then (DU p0 s_RBuiltExpr n v13 true) else (DU p0 s_RBuiltExpr n v13 (!decide (p0.Src = v12))))
def DT (p0 : TE) (s_RBuiltExpr : TE → Option Bool) (n : Nat) (v11 : ByteArray) (v12 : ByteArray) (v13 : Int) (v14 : Bool) : Option Bool :=
 (bif v14 then (DR p0 s_RBuiltExpr n v12 v13 true) else (DR p0 s_RBuiltExpr n v12 v13 (!decide (p0.Name = v11))))
def BM (p0 : TE) (s_RBuiltExpr : TE → Option Bool) (n : Nat) (v9 : Int) (v10 : ByteArray) (v11 : ByteArray) (v12 : ByteArray) (v13 : Int) : Option Bool :=
 (bif (!decide (p0.N = v9)) then (DT p0 s_RBuiltExpr n v11 v12 v13 true) else (DT p0 s_RBuiltExpr n v11 v12 v13 (!decide (p0.S = v10))))
def DZ (p0 : TE) (s_RBuiltExpr : TE → Option Bool) (n : Nat) (v5 : ByteArray) (v6 : Int) : Option Bool :=
 ((Du n p0.Src).bind fun v7 => (bif (!v7) then some false else (BM p0 s_RBuiltExpr n (0 : Int) v5 p0.Name p0.Src v6)))
def DY (p0 : TE) (s_RBuiltExpr : TE → Option Bool) (n : Nat) (v5 : ByteArray) : Option Bool :=
 (bif (decide ((5 : Int) < p0.Op)) then (bif (decide (p0.Op = (21 : Int))) then (DZ p0 s_RBuiltExpr n v5 (1 : Int)) else (DZ p0 s_RBuiltExpr n v5 (2 : Int))) else (BM p0 s_RBuiltExpr n (0 : Int) v5 p0.Name (⟨#[]⟩ : ByteArray) (0 : Int)))
def DS (p0 : TE) (s_RBuiltExpr : TE → Option Bool) (n : Nat) (v8 : Bool) : Option Bool :=
 (bif v8 then (BM p0 s_RBuiltExpr n (0 : Int) (⟨#[]⟩ : ByteArray) (⟨#[]⟩ : ByteArray) (⟨#[]⟩ : ByteArray) (2 : Int)) else (bif (decide (p0.Op = (19 : Int))) then (BM p0 s_RBuiltExpr n (0 : Int) (⟨#[]⟩ : ByteArray) (⟨#[]⟩ : ByteArray) (⟨#[]⟩ : ByteArray) (1 : Int)) else (bif (decide (p0.Op = (20 : Int))) then (BM p0 s_RBuiltExpr n (0 : Int) (⟨#[]⟩ : ByteArray) (⟨#[]⟩ : ByteArray) (⟨#[]⟩ : ByteArray) (1 : Int)) else some false)))
def Dn (p0 : TE) (s_RBuiltExpr : TE → Option Bool) (n : Nat) (v2 : Bool) : Option Bool :=
 (bif v2 then ((Du n p0.Name).bind fun v3 => (bif (!v3) then some false else (bif (decide (p0.Op = (5 : Int))) then ((Du n p0.S).bind fun v4 => (bif (!v4) then some false else (DY p0 s_RBuiltExpr n p0.S))) else (DY p0 s_RBuiltExpr n (⟨#[]⟩ : ByteArray))))) else (bif (decide ((6 : Int) ≤ p0.Op)) then (DS p0 s_RBuiltExpr n (decide (p0.Op ≤ (18 : Int)))) else (DS p0 s_RBuiltExpr n false)))
def DQ (p0 : TE) (s_RBuiltExpr : TE → Option Bool) (n : Nat) (v1 : Bool) : Option Bool :=
 (bif v1 then (Dn p0 s_RBuiltExpr n true) else (bif (decide ((21 : Int) ≤ p0.Op)) then (Dn p0 s_RBuiltExpr n (decide (p0.Op ≤ (24 : Int)))) else (Dn p0 s_RBuiltExpr n false)))
def FB (s_RBuiltExpr : TE → Option Bool) (n : Nat) (p0 : TE) : Option Bool :=
 (bif (decide (p0.Op = (1 : Int))) then (BM p0 s_RBuiltExpr n (max p0.N (0 : Int)) (⟨#[]⟩ : ByteArray) (⟨#[]⟩ : ByteArray) (⟨#[]⟩ : ByteArray) (0 : Int)) else (bif (decide (p0.Op = (2 : Int))) then (bif (decide ((200 : Int) < (p0.S.size : Int))) then some false else (BM p0 s_RBuiltExpr n (0 : Int) p0.S (⟨#[]⟩ : ByteArray) (⟨#[]⟩ : ByteArray) (0 : Int))) else (bif (decide (p0.Op = (3 : Int))) then (BM p0 s_RBuiltExpr n (min (max p0.N (0 : Int)) (1 : Int)) (⟨#[]⟩ : ByteArray) (⟨#[]⟩ : ByteArray) (⟨#[]⟩ : ByteArray) (0 : Int)) else (bif (decide (p0.Op = (4 : Int))) then (DQ p0 s_RBuiltExpr n true) else (DQ p0 s_RBuiltExpr n (decide (p0.Op = (5 : Int))))))))
set_option maxRecDepth 100000 in
set_option maxHeartbeats 4000000 in
theorem Af8 (s_RBuiltExpr : TE → Option Bool) (n : Nat) (p0 : TE) (H_s_RBuiltExpr : ∀ (p0 : TE) {r : Bool}, s_RBuiltExpr p0 = some r → ∀ {st : List Content} {K : PV → List Content → Prop} (h : K (.d (.bool r)) st), Av PR G2 [(.agg [(.d (.int .i64 p0.Op)), (.d (.int .i64 p0.N)), (.d (.str p0.S)), (.d (.str p0.Name)), (.d (.str p0.Src)), (.d (.sl (List.map TE.row p0.Args)))])] st K) {r : Bool} (hr : FB s_RBuiltExpr n p0 = some r) {K : PV → List Content → Prop} (h : K (.d (.bool r)) st) : Av PR G2 [(.agg [(.d (.int .i64 p0.Op)), (.d (.int .i64 p0.N)), (.d (.str p0.S)), (.d (.str p0.Name)), (.d (.str p0.Src)), (.d (.sl (List.map TE.row p0.Args)))])] st K := by
 refine Av.of An7 (Nat.le_of_ble_eq_true rfl) fun hwf => ?_
 rw [B5]
 refine AQ ?_
 unfold S9
 rw [FB] at hr
 refine Al (Af ?_)
 unfold Qh
 refine Gq (k := 0) rfl rfl (e_t eh) Bf (by exact rfl) ?_
 refine Ab e_c (Aa (Ae (Al (Af ?_))))
 unfold PQ
 refine AB (e_t (em rfl eh)) (by exact rfl) ?_
 refine Ap (e_t eh) ((Am rfl 0).trans rfl) (by exact rfl) ?_
 refine II (cs := [(.d (.int .i64 p0.Op)), (.d (.int .i64 (0 : Int))), (.d (.str (⟨#[]⟩ : ByteArray))), (.d (.str (⟨#[]⟩ : ByteArray))), (.d (.str (⟨#[]⟩ : ByteArray))), (.ex [])]) (Co (e_t eh) A0 rfl (Nat.le_of_ble_eq_true rfl) (by exact rfl) KW) (Cm (e_t eh) A0 (by exact rfl) KQ) ?_
 refine Cn (k := 1) rfl rfl ?_
 refine Bl (e_t eh) ((Am rfl 1).trans rfl) (e_t (em rfl eh)) Bf rfl (Nat.le_of_ble_eq_true rfl) (by exact rfl) (cells' := [(.d (.int .i64 p0.Op)), (.d (.int .i64 (0 : Int))), (.d (.str (⟨#[]⟩ : ByteArray))), (.d (.str (⟨#[]⟩ : ByteArray))), (.d (.str (⟨#[]⟩ : ByteArray))), (.ex [])]) (by exact rfl) (Bo rfl _ _) ?_
 refine Aa (Ae (Al (Af ?_)))
 unfold PF
 refine Ab e_c (Aa (Ae ?_))
 refine By (fun f st' => ∃ (v9 : Int), ∃ (v10 : ByteArray), ∃ (v11 : ByteArray), ∃ (v12 : ByteArray), ∃ (v13 : Int), BM p0 s_RBuiltExpr n v9 v10 v11 v12 v13 = some r ∧ f 1 = (.ptr (st.length + 0) 0) ∧ f 3 = (.ptr (st.length + 1) 0) ∧ f 4 = (.d (.int .i64 v13)) ∧ st' = st ++ [(.box [(.d (.int .i64 p0.Op)), (.d (.int .i64 p0.N)), (.d (.str p0.S)), (.d (.str p0.Name)), (.d (.str p0.Src)), (.d (.sl (List.map TE.row p0.Args)))]), (.box [(.d (.int .i64 p0.Op)), (.d (.int .i64 v9)), (.d (.str v10)), (.d (.str v11)), (.d (.str v12)), (.ex [])])]) ?_ ?_
 rotate_left
 · rintro f st' ⟨v9, v10, v11, v12, v13, hr, h1, h3, h4, rfl⟩
   rw [BM] at hr
   refine Al ?_
   refine By (fun f st' => ∃ (v17 : Bool), DV p0 s_RBuiltExpr n v13 v17 = some r ∧ f 1 = (.ptr (st.length + 0) 0) ∧ f 4 = (.d (.int .i64 v13)) ∧ f 136 = (.d (.bool v17)) ∧ st' = st ++ [(.box [(.d (.int .i64 p0.Op)), (.d (.int .i64 p0.N)), (.d (.str p0.S)), (.d (.str p0.Name)), (.d (.str p0.Src)), (.d (.sl (List.map TE.row p0.Args)))]), (.box [(.d (.int .i64 p0.Op)), (.d (.int .i64 v9)), (.d (.str v10)), (.d (.str v11)), (.d (.str v12)), (.ex [])])]) ?_ ?_
   rotate_left
   · rintro f st' ⟨v17, hr, h1, h4, h136, rfl⟩
     rw [DV] at hr
     refine AC (e_t h136) hr (fun hr => ?_) (fun hr => ?_)
     · refine Al (Af ?_)
       unfold Oa
       refine Ab e_c (Aa (Ae (AI (AA ?_))))
       cases hr
       exact A7 (AG eh AH) (AN AF v_d) (Ay hwf) h
     refine AO (Ae (Al (Al (Af ?_))))
     unfold Oy
     refine Ab e_c (Aa (Ae ?_))
     refine AT ?_
     refine BX (fun m f st' => ∃ (v18 : Int), Bv p0 s_RBuiltExpr v13 m v18 = some r ∧ f 1 = (.ptr (st.length + 0) 0) ∧ f 4 = (.d (.int .i64 v13)) ∧ f 5 = (.d (.int .i64 v18)) ∧ st' = st ++ [(.box [(.d (.int .i64 p0.Op)), (.d (.int .i64 p0.N)), (.d (.str p0.S)), (.d (.str p0.Name)), (.d (.str p0.Src)), (.d (.sl (List.map TE.row p0.Args)))]), (.box [(.d (.int .i64 p0.Op)), (.d (.int .i64 v9)), (.d (.str v10)), (.d (.str v11)), (.d (.str v12)), (.ex [])])]) n (Ghost.refl _) ⟨(0 : Int), hr, (em rfl h1), (em rfl h4), eh, rfl⟩ ?_
     rintro m f st' ⟨v18, hr, h1, h4, h5, rfl⟩
     cases m with
     | zero => cases hr
     | succ m_0 =>
       rw [Bv] at hr
       generalize hrec_0 : Bv p0 s_RBuiltExpr v13 m_0 = q0 at hr
       rw [Eh] at hr
       unfold Om
       refine Al (Al (Af ?_))
       unfold NM
       refine Ab (e_t h5) (Ab (e_t (em rfl h4)) ?_)
       refine As (e_t (em rfl eh)) (e_t eh) (CM ?_)
       refine Aa (Ae ?_)
       refine AC (e_t eh) hr (fun hr => ?_) (fun hr => ?_)
       rotate_left
       · refine CG ?_
         refine AW ?_
         refine AW ?_
         refine DF ?_
         refine Ae (Al (Af ?_))
         unfold Ov
         refine Ab e_c (Aa (Ae (AI ?_)))
         cases hr
         exact A7 (AG eh AH) (AN AF v_d) (Ay hwf) h
       refine AO (Ae (Al ?_))
       refine AT ?_
       refine Al (Af ?_)
       unfold OB
       refine AB (e_t (Ac rfl (em rfl h1))) (by exact rfl) ?_
       refine Ap (e_t eh) ((Am rfl 0).trans rfl) (by exact rfl) ?_
       refine Ab (e_t (Ad rfl (em rfl h5))) ?_
       refine Br (row := TE.row) (AP (e_t (em rfl eh)) Bt) (e_t eh) hr TE.row_eq (fun _ => rfl) (fun v19 hr => ?_)
       refine Dc (e_t eh) (Nat.le_of_ble_eq_true rfl) (by exact rfl) ?_
       obtain ⟨v20, hc_v20, hr⟩ := bind_some hr
       refine AJ (Ar (e_t eh) (Bx (Aq f_d (Aq f_d (Aq f_d (Aq f_d (Aq f_d (Aq f_d B3))))))) AM) ?_
       refine H_s_RBuiltExpr v19 hc_v20 ?_
       refine C2 (e_t eh) (Aa (Ae ?_))
       refine AC (e_t eh) hr (fun hr => ?_) (fun hr => ?_)
       rotate_left
       · refine AO ?_
         refine BB ?_
         refine Ae (Af ?_)
         unfold Ow
         refine Ab (e_t (Ak rfl (Ac rfl h5))) ?_
         refine As (e_t eh) e_c (BU ?_)
         refine Ab (e_t eh) (Aa (Ae ?_))
         exact ⟨m_0, _, Nat.lt_succ_self m_0, Ghost.refl _, (IntKind.wrap .i64 (v18 + (1 : Int))), (by rw [hrec_0]; exact hr), (Ak rfl (Ad rfl (em rfl h1))), (Ak rfl (Ad rfl (em rfl h4))), eh, rfl⟩
       refine Al (Af ?_)
       unfold OS
       refine Ab e_c (Aa (Ae (AI ?_)))
       refine BH ?_
       refine AA (AA ?_)
       refine BH ?_
       refine AA ?_
       cases hr
       exact A7 (AG eh AH) (AN AF v_d) (Ay hwf) h
   refine Af ?_
   unfold OH
   refine A1 (fun f st' => ∃ (v14 : Bool), DT p0 s_RBuiltExpr n v11 v12 v13 v14 = some r ∧ f 1 = (.ptr (st.length + 0) 0) ∧ f 3 = (.ptr (st.length + 1) 0) ∧ f 4 = (.d (.int .i64 v13)) ∧ f 115 = (.d (.bool v14)) ∧ st' = st ++ [(.box [(.d (.int .i64 p0.Op)), (.d (.int .i64 p0.N)), (.d (.str p0.S)), (.d (.str p0.Name)), (.d (.str p0.Src)), (.d (.sl (List.map TE.row p0.Args)))]), (.box [(.d (.int .i64 p0.Op)), (.d (.int .i64 v9)), (.d (.str v10)), (.d (.str v11)), (.d (.str v12)), (.ex [])])]) ?_ ?_
   · unfold Mk
     refine AB (e_t h1) (by exact rfl) ?_
     refine Ap (e_t eh) ((Am rfl 0).trans rfl) (by exact rfl) ?_
     refine AB (e_t (Ac rfl h3)) (by exact rfl) ?_
     refine Ap (e_t eh) ((Am rfl 1).trans rfl) (by exact rfl) ?_
     refine As (e_t (Ac rfl eh)) (e_t eh) (SP ?_)
     refine Ab (e_t eh) ?_
     refine Au eh hr (fun hr => ?_) (fun hr => ?_)
     · refine Ag eh (Ag (em rfl eh) (Ag (Ac rfl eh) (Ag (Ac rfl (em rfl eh)) (Ag (Ad rfl eh) (An (e_t (Ad rfl (em rfl eh))) e_c ?_)))))
       refine Aa ?_
       exact ⟨true, hr, (Ak rfl (Ad rfl (em rfl h1))), (Ak rfl (Ad rfl (em rfl h3))), (Ak rfl (Ad rfl (em rfl h4))), eh, rfl⟩
     refine Ai eh ?_
     refine AB (e_t (Ad rfl (Ac rfl (em rfl h1)))) (by exact rfl) ?_
     refine Ai (em rfl eh) ?_
     refine Ap (e_t eh) ((Am rfl 0).trans rfl) (by exact rfl) ?_
     refine Ai (Ac rfl eh) ?_
     refine AB (e_t (Ak rfl (em rfl h3))) (by exact rfl) ?_
     refine Ai (Ac rfl (em rfl eh)) ?_
     refine Ap (e_t eh) ((Am rfl 1).trans rfl) (by exact rfl) ?_
     refine Ai (Ad rfl eh) ?_
     refine As (e_t (Ac rfl eh)) (e_t eh) (MD ?_)
     refine Ao (e_t (Ad rfl (em rfl eh))) (e_t eh) (Aa ?_)
     exact ⟨(!decide (p0.S = v10)), hr, (Ak rfl (Ad rfl (em rfl h1))), (Ak rfl (Ad rfl (em rfl h3))), (Ak rfl (Ad rfl (em rfl h4))), eh, rfl⟩
   rintro f st' ⟨v14, hr, h1, h3, h4, h115, rfl⟩
   rw [DT] at hr
   refine A1 (fun f st' => ∃ (v15 : Bool), DR p0 s_RBuiltExpr n v12 v13 v15 = some r ∧ f 1 = (.ptr (st.length + 0) 0) ∧ f 3 = (.ptr (st.length + 1) 0) ∧ f 4 = (.d (.int .i64 v13)) ∧ f 122 = (.d (.bool v15)) ∧ st' = st ++ [(.box [(.d (.int .i64 p0.Op)), (.d (.int .i64 p0.N)), (.d (.str p0.S)), (.d (.str p0.Name)), (.d (.str p0.Src)), (.d (.sl (List.map TE.row p0.Args)))]), (.box [(.d (.int .i64 p0.Op)), (.d (.int .i64 v9)), (.d (.str v10)), (.d (.str v11)), (.d (.str v12)), (.ex [])])]) ?_ ?_
   · unfold LV
     refine Ab (e_t h115) ?_
     refine Au eh hr (fun hr => ?_) (fun hr => ?_)
     · refine Ag eh (Ag (em rfl eh) (Ag (Ac rfl eh) (Ag (Ac rfl (em rfl eh)) (Ag (Ad rfl eh) (An (e_t (Ad rfl (em rfl eh))) e_c ?_)))))
       refine Aa ?_
       exact ⟨true, hr, (Ad rfl (Ad rfl h1)), (Ad rfl (Ad rfl h3)), (Ad rfl (Ad rfl h4)), eh, rfl⟩
     refine Ai eh ?_
     refine AB (e_t (Ac rfl h1)) (by exact rfl) ?_
     refine Ai (em rfl eh) ?_
     refine Ap (e_t eh) ((Am rfl 0).trans rfl) (by exact rfl) ?_
     refine Ai (Ac rfl eh) ?_
     refine AB (e_t (Ad rfl h3)) (by exact rfl) ?_
     refine Ai (Ac rfl (em rfl eh)) ?_
     refine Ap (e_t eh) ((Am rfl 1).trans rfl) (by exact rfl) ?_
     refine Ai (Ad rfl eh) ?_
     refine As (e_t (Ac rfl eh)) (e_t eh) (MD ?_)
     refine Ao (e_t (Ad rfl (em rfl eh))) (e_t eh) (Aa ?_)
     exact ⟨(!decide (p0.Name = v11)), hr, (Ad rfl (Ad rfl h1)), (Ad rfl (Ad rfl h3)), (Ad rfl (Ad rfl h4)), eh, rfl⟩
   rintro f st' ⟨v15, hr, h1, h3, h4, h122, rfl⟩
   rw [DR] at hr
   refine A1 (fun f st' => ∃ (v16 : Bool), DU p0 s_RBuiltExpr n v13 v16 = some r ∧ f 1 = (.ptr (st.length + 0) 0) ∧ f 4 = (.d (.int .i64 v13)) ∧ f 129 = (.d (.bool v16)) ∧ st' = st ++ [(.box [(.d (.int .i64 p0.Op)), (.d (.int .i64 p0.N)), (.d (.str p0.S)), (.d (.str p0.Name)), (.d (.str p0.Src)), (.d (.sl (List.map TE.row p0.Args)))]), (.box [(.d (.int .i64 p0.Op)), (.d (.int .i64 v9)), (.d (.str v10)), (.d (.str v11)), (.d (.str v12)), (.ex [])])]) ?_ ?_
   · unfold LM
     refine Ab (e_t h122) ?_
     refine Au eh hr (fun hr => ?_) (fun hr => ?_)
     · refine Ag eh (Ag (em rfl eh) (Ag (Ac rfl eh) (Ag (Ac rfl (em rfl eh)) (Ag (Ad rfl eh) (An (e_t (Ad rfl (em rfl eh))) e_c ?_)))))
       refine Aa ?_
       exact ⟨true, hr, (Ad rfl (Ad rfl h1)), (Ad rfl (Ad rfl h4)), eh, rfl⟩
     refine Ai eh ?_
     refine AB (e_t (Ac rfl h1)) (by exact rfl) ?_
     refine Ai (em rfl eh) ?_
     refine Ap (e_t eh) ((Am rfl 0).trans rfl) (by exact rfl) ?_
     refine Ai (Ac rfl eh) ?_
     refine AB (e_t (Ad rfl h3)) (by exact rfl) ?_
     refine Ai (Ac rfl (em rfl eh)) ?_
     refine Ap (e_t eh) ((Am rfl 1).trans rfl) (by exact rfl) ?_
     refine Ai (Ad rfl eh) ?_
     refine As (e_t (Ac rfl eh)) (e_t eh) (MD ?_)
     refine Ao (e_t (Ad rfl (em rfl eh))) (e_t eh) (Aa ?_)
     exact ⟨(!decide (p0.Src = v12)), hr, (Ad rfl (Ad rfl h1)), (Ad rfl (Ad rfl h4)), eh, rfl⟩
   rintro f st' ⟨v16, hr, h1, h4, h129, rfl⟩
   rw [DU] at hr
   unfold L0
   refine Ab (e_t h129) ?_
   refine Au eh hr (fun hr => ?_) (fun hr => ?_)
   · refine Ag eh (Ag (em rfl eh) (Ag (Ac rfl eh) (Ag (Ac rfl (em rfl eh)) (Ag (Ad rfl eh) (An (e_t (Ad rfl (em rfl eh))) e_c ?_)))))
     refine Aa (Ae ?_)
     exact ⟨true, hr, (Ad rfl (Ad rfl h1)), (Ad rfl (Ad rfl h4)), eh, rfl⟩
   refine Ai eh ?_
   refine AB (e_t (Ac rfl h1)) (by exact rfl) ?_
   refine Ai (em rfl eh) ?_
   refine Ap (e_t eh) ((Am rfl 0).trans rfl) (by exact rfl) ?_
   refine Ai (Ac rfl eh) ?_
   refine Bh (row := TE.row) (AP (e_t eh) Bt) ?_
   refine Ai (Ac rfl (em rfl eh)) (Ab (e_t (Ad rfl (em rfl h4))) (Ai (Ad rfl eh) ?_))
   refine As (e_t (em rfl eh)) (e_t eh) (SP ?_)
   refine Ao (e_t (Ad rfl (em rfl eh))) (e_t eh) (Aa (Ae ?_))
   exact ⟨(!decide ((p0.Args.length : Int) = v13)), hr, (Ad rfl (Ad rfl h1)), (Ad rfl (Ad rfl h4)), eh, rfl⟩
 refine AT ?_
 refine Al (Af ?_)
 unfold Qc
 refine AB (e_t (Ad rfl (Ac rfl eh))) (by exact rfl) ?_
 refine Ap (e_t eh) ((Am rfl 0).trans rfl) (by exact rfl) ?_
 refine As (e_t eh) e_c (BK ?_)
 refine Ab (e_t eh) (Aa (Ae ?_))
 refine AC (e_t eh) hr (fun hr => ?_) (fun hr => ?_)
 · refine Af ?_
   unfold PZ
   refine AB (e_t (Ak rfl (Ac rfl eh))) (by exact rfl) ?_
   refine Ap (e_t eh) ((Am rfl 0).trans rfl) (by exact rfl) ?_
   refine Ze (e_t eh) (ZM e_c (RD ?_))
   refine AB (e_t (Ad rfl (Ad rfl eh))) (by exact rfl) ?_
   refine Bl (e_t eh) ((Am rfl 1).trans rfl) (e_t (em rfl eh)) A0 rfl (Nat.le_of_ble_eq_true rfl) (by exact rfl) (cells' := [(.d (.int .i64 p0.Op)), (.d (.int .i64 (max p0.N (0 : Int)))), (.d (.str (⟨#[]⟩ : ByteArray))), (.d (.str (⟨#[]⟩ : ByteArray))), (.d (.str (⟨#[]⟩ : ByteArray))), (.ex [])]) (by exact rfl) (Bo rfl _ _) ?_
   refine Aa ?_
   refine BB ?_
   refine Ae ?_
   exact ⟨(max p0.N (0 : Int)), (⟨#[]⟩ : ByteArray), (⟨#[]⟩ : ByteArray), (⟨#[]⟩ : ByteArray), (0 : Int), hr, (Ak rfl (Ad rfl (Ac rfl eh))), (Ak rfl (em rfl eh)), (Ad rfl (Ad rfl eh)), rfl⟩
 refine Al (Af ?_)
 unfold Pr
 refine AB (e_t (Ak rfl (Ac rfl eh))) (by exact rfl) ?_
 refine Ap (e_t eh) ((Am rfl 0).trans rfl) (by exact rfl) ?_
 refine As (e_t eh) e_c (BK ?_)
 refine Ab (e_t eh) (Aa (Ae ?_))
 refine AC (e_t eh) hr (fun hr => ?_) (fun hr => ?_)
 · refine Al (Af ?_)
   unfold Qf
   refine AB (e_t (Ak rfl (Ad rfl (Ac rfl eh)))) (by exact rfl) ?_
   refine Ap (e_t eh) ((Am rfl 0).trans rfl) (by exact rfl) ?_
   refine AB (e_t (Ak rfl (Ac rfl (em rfl eh)))) (by exact rfl) ?_
   refine Bl (e_t eh) ((Am rfl 1).trans rfl) (e_t (em rfl eh)) A0 rfl (Nat.le_of_ble_eq_true rfl) (by exact rfl) (cells' := [(.d (.int .i64 p0.Op)), (.d (.int .i64 (0 : Int))), (.d (.str p0.S)), (.d (.str (⟨#[]⟩ : ByteArray))), (.d (.str (⟨#[]⟩ : ByteArray))), (.ex [])]) (by exact rfl) (Bo rfl _ _) ?_
   refine Aa (Ae (Al (Af ?_)))
   unfold PN
   refine AB (e_t (Aj rfl (em rfl eh))) (by exact rfl) ?_
   refine Ap (e_t eh) ((Am rfl 0).trans rfl) (by exact rfl) ?_
   refine Ij (e_t eh) ?_
   refine As (e_t eh) e_c (C8 ?_)
   refine Aa (Ae ?_)
   refine AC (e_t eh) hr (fun hr => ?_) (fun hr => ?_)
   rotate_left
   · refine AO ?_
     refine BB ?_
     refine Ae ?_
     exact ⟨(0 : Int), p0.S, (⟨#[]⟩ : ByteArray), (⟨#[]⟩ : ByteArray), (0 : Int), hr, (Aj rfl (Ad rfl (em rfl eh))), (Ak rfl (Ad rfl (Ad rfl eh))), (Ak rfl (Ad rfl (Ac rfl (em rfl eh)))), rfl⟩
   refine Al (Af ?_)
   unfold Qm
   refine Ab e_c (Aa (Ae (AI ?_)))
   refine BH ?_
   refine AA ?_
   cases hr
   exact A7 (AG eh AH) (AN AF v_d) (Ay hwf) h
 refine Al (Af ?_)
 unfold Qb
 refine AB (e_t (Ak rfl (Ad rfl (Ac rfl eh)))) (by exact rfl) ?_
 refine Ap (e_t eh) ((Am rfl 0).trans rfl) (by exact rfl) ?_
 refine As (e_t eh) e_c (BK ?_)
 refine Ab (e_t eh) (Aa (Ae ?_))
 refine AC (e_t eh) hr (fun hr => ?_) (fun hr => ?_)
 · refine Af ?_
   unfold NN
   refine AB (e_t (Aj rfl (Ac rfl eh))) (by exact rfl) ?_
   refine Ap (e_t eh) ((Am rfl 0).trans rfl) (by exact rfl) ?_
   refine Ze (e_t eh) (ZM e_c (RD ?_))
   refine Ze (e_t eh) (AG3 e_c (RD ?_))
   refine AB (e_t (Aj rfl (em rfl eh))) (by exact rfl) ?_
   refine Bl (e_t eh) ((Am rfl 1).trans rfl) (e_t (em rfl eh)) A0 rfl (Nat.le_of_ble_eq_true rfl) (by exact rfl) (cells' := [(.d (.int .i64 p0.Op)), (.d (.int .i64 (min (max p0.N (0 : Int)) (1 : Int)))), (.d (.str (⟨#[]⟩ : ByteArray))), (.d (.str (⟨#[]⟩ : ByteArray))), (.d (.str (⟨#[]⟩ : ByteArray))), (.ex [])]) (by exact rfl) (Bo rfl _ _) ?_
   refine Aa ?_
   refine BB ?_
   refine Ae ?_
   exact ⟨(min (max p0.N (0 : Int)) (1 : Int)), (⟨#[]⟩ : ByteArray), (⟨#[]⟩ : ByteArray), (⟨#[]⟩ : ByteArray), (0 : Int), hr, (Aj rfl (Ad rfl (Ac rfl (em rfl eh)))), (Aj rfl (Ac rfl eh)), (Aj rfl (em rfl eh)), rfl⟩
 refine By (fun f st' => ∃ (v2 : Bool), Dn p0 s_RBuiltExpr n v2 = some r ∧ f 1 = (.ptr (st.length + 0) 0) ∧ f 3 = (.ptr (st.length + 1) 0) ∧ f 4 = (.d (.int .i64 (0 : Int))) ∧ f 37 = (.d (.bool v2)) ∧ st' = st ++ [(.box [(.d (.int .i64 p0.Op)), (.d (.int .i64 p0.N)), (.d (.str p0.S)), (.d (.str p0.Name)), (.d (.str p0.Src)), (.d (.sl (List.map TE.row p0.Args)))]), (.box [(.d (.int .i64 p0.Op)), (.d (.int .i64 (0 : Int))), (.d (.str (⟨#[]⟩ : ByteArray))), (.d (.str (⟨#[]⟩ : ByteArray))), (.d (.str (⟨#[]⟩ : ByteArray))), (.ex [])])]) ?_ ?_
 · refine Af ?_
   unfold Oq
   refine A1 (fun f st' => ∃ (v1 : Bool), DQ p0 s_RBuiltExpr n v1 = some r ∧ f 1 = (.ptr (st.length + 0) 0) ∧ f 3 = (.ptr (st.length + 1) 0) ∧ f 4 = (.d (.int .i64 (0 : Int))) ∧ f 45 = (.d (.bool v1)) ∧ st' = st ++ [(.box [(.d (.int .i64 p0.Op)), (.d (.int .i64 p0.N)), (.d (.str p0.S)), (.d (.str p0.Name)), (.d (.str p0.Src)), (.d (.sl (List.map TE.row p0.Args)))]), (.box [(.d (.int .i64 p0.Op)), (.d (.int .i64 (0 : Int))), (.d (.str (⟨#[]⟩ : ByteArray))), (.d (.str (⟨#[]⟩ : ByteArray))), (.d (.str (⟨#[]⟩ : ByteArray))), (.ex [])])]) ?_ ?_
   · unfold Lv
     refine AB (e_t (Aj rfl (Ac rfl eh))) (by exact rfl) ?_
     refine Ap (e_t eh) ((Am rfl 0).trans rfl) (by exact rfl) ?_
     refine As (e_t eh) e_c (BK ?_)
     refine Ab (e_t eh) ?_
     refine Au eh hr (fun hr => ?_) (fun hr => ?_)
     · refine Ag eh (Ag (em rfl eh) (Ag (Ac rfl eh) (An (e_t (Ac rfl (em rfl eh))) e_c (Aa ?_))))
       exact ⟨true, hr, (Aj rfl (Ak rfl (Ac rfl (em rfl eh)))), (Aj rfl (Ad rfl (Ac rfl eh))), (Aj rfl (Ad rfl (em rfl eh))), eh, rfl⟩
     refine Ai eh ?_
     refine AB (e_t (Aj rfl (Ad rfl (Ac rfl (em rfl eh))))) (by exact rfl) ?_
     refine Ai (em rfl eh) ?_
     refine Ap (e_t eh) ((Am rfl 0).trans rfl) (by exact rfl) ?_
     refine Ai (Ac rfl eh) ?_
     refine As (e_t eh) e_c (BK ?_)
     refine Ao (e_t (Ac rfl (em rfl eh))) (e_t eh) (Aa ?_)
     exact ⟨(decide (p0.Op = (5 : Int))), hr, (Aj rfl (Ak rfl (Ac rfl (em rfl eh)))), (Aj rfl (Ad rfl (Ac rfl eh))), (Aj rfl (Ad rfl (em rfl eh))), eh, rfl⟩
   rintro f st' ⟨v1, hr, h1, h3, h4, h45, rfl⟩
   rw [DQ] at hr
   refine Bn ?_
   unfold LY
   refine Ab (e_t h45) ?_
   refine Au eh hr (fun hr => ?_) (fun hr => ?_)
   · refine Ag eh (Ag (em rfl eh) (Ag (Ac rfl eh) (Ag (Ac rfl (em rfl eh)) ?_)))
     refine A4 eh ?_
     refine A4 (em rfl eh) ?_
     refine A4 (Ac rfl eh) ?_
     refine Ag (Ad rfl (Ac rfl (em rfl eh))) (An (e_t (Ad rfl (Ad rfl eh))) e_c (Aa ?_))
     unfold GZ
     refine Ab (e_t eh) (Aa (Ae ?_))
     exact ⟨true, hr, (Ak rfl (Ad rfl h1)), (Ak rfl (Ad rfl h3)), (Ak rfl (Ad rfl h4)), eh, rfl⟩
   refine Ai eh ?_
   refine AB (e_t (Ac rfl h1)) (by exact rfl) ?_
   refine Ai (em rfl eh) ?_
   refine Ap (e_t eh) ((Am rfl 0).trans rfl) (by exact rfl) ?_
   refine Ai (Ac rfl eh) ?_
   refine As (e_t eh) e_c (Ei ?_)
   refine Ai (Ac rfl (em rfl eh)) (Ab (e_t eh) ?_)
   refine Au eh hr (fun hr => ?_) (fun hr => ?_)
   rotate_left
   · refine Ag eh (Ag (em rfl eh) (Ag (Ac rfl eh) (Ai (Ad rfl (Ad rfl eh)) (Ao (e_t (Ac rfl (em rfl eh))) e_c (Ao (e_t (Ak rfl (em rfl eh))) (e_t eh) ?_)))))
     refine Aa ?_
     unfold GZ
     refine Ab (e_t eh) (Aa (Ae ?_))
     exact ⟨false, hr, (Ak rfl (Ad rfl (em rfl h1))), (Ak rfl (Ad rfl (em rfl h3))), (Ak rfl (Ad rfl (em rfl h4))), eh, rfl⟩
   refine Ai eh ?_
   refine AB (e_t (Ad rfl (Ac rfl (em rfl h1)))) (by exact rfl) ?_
   refine Ai (em rfl eh) ?_
   refine Ap (e_t eh) ((Am rfl 0).trans rfl) (by exact rfl) ?_
   refine Ai (Ac rfl eh) ?_
   refine As (e_t eh) e_c (JI ?_)
   refine Ai (Ad rfl (Ad rfl eh)) (An (e_t (Ac rfl (em rfl eh))) (e_t eh) (Ao (e_t (Ak rfl (em rfl eh))) (e_t eh) (Aa ?_)))
   unfold GZ
   refine Ab (e_t eh) (Aa (Ae ?_))
   exact ⟨(decide (p0.Op ≤ (24 : Int))), hr, (Ak rfl (Ad rfl (em rfl h1))), (Ak rfl (Ad rfl (em rfl h3))), (Ak rfl (Ad rfl (em rfl h4))), eh, rfl⟩
 rintro f st' ⟨v2, hr, h1, h3, h4, h37, rfl⟩
 rw [Dn] at hr
 refine AC (e_t h37) hr (fun hr => ?_) (fun hr => ?_)
 rotate_left
 · refine By (fun f st' => ∃ (v8 : Bool), DS p0 s_RBuiltExpr n v8 = some r ∧ f 1 = (.ptr (st.length + 0) 0) ∧ f 3 = (.ptr (st.length + 1) 0) ∧ f 86 = (.d (.bool v8)) ∧ st' = st ++ [(.box [(.d (.int .i64 p0.Op)), (.d (.int .i64 p0.N)), (.d (.str p0.S)), (.d (.str p0.Name)), (.d (.str p0.Src)), (.d (.sl (List.map TE.row p0.Args)))]), (.box [(.d (.int .i64 p0.Op)), (.d (.int .i64 (0 : Int))), (.d (.str (⟨#[]⟩ : ByteArray))), (.d (.str (⟨#[]⟩ : ByteArray))), (.d (.str (⟨#[]⟩ : ByteArray))), (.ex [])])]) ?_ ?_
   · refine Af ?_
     unfold Oj
     refine Bn ?_
     unfold L8
     refine AB (e_t h1) (by exact rfl) ?_
     refine Ap (e_t eh) ((Am rfl 0).trans rfl) (by exact rfl) ?_
     refine As (e_t eh) e_c (Ei ?_)
     refine Ab (e_t eh) ?_
     refine Au eh hr (fun hr => ?_) (fun hr => ?_)
     rotate_left
     · refine Ag eh (Ag (em rfl eh) (Ag (Ac rfl eh) (Ao (e_t (Ac rfl (em rfl eh))) e_c (Aa ?_))))
       unfold IU
       refine Ab (e_t eh) (Aa (Ae ?_))
       exact ⟨false, hr, (Ak rfl (Ac rfl h1)), (Ak rfl (Ac rfl h3)), eh, rfl⟩
     refine Ai eh ?_
     refine AB (e_t (Ad rfl (em rfl h1))) (by exact rfl) ?_
     refine Ai (em rfl eh) ?_
     refine Ap (e_t eh) ((Am rfl 0).trans rfl) (by exact rfl) ?_
     refine Ai (Ac rfl eh) ?_
     refine As (e_t eh) e_c (JI ?_)
     refine An (e_t (Ac rfl (em rfl eh))) (e_t eh) (Aa ?_)
     unfold IU
     refine Ab (e_t eh) (Aa (Ae ?_))
     exact ⟨(decide (p0.Op ≤ (18 : Int))), hr, (Ak rfl (Ac rfl h1)), (Ak rfl (Ac rfl h3)), eh, rfl⟩
   rintro f st' ⟨v8, hr, h1, h3, h86, rfl⟩
   rw [DS] at hr
   refine AC (e_t h86) hr (fun hr => ?_) (fun hr => ?_)
   · refine Af ?_
     unfold Of
     refine Ab e_c (Aa ?_)
     refine BB ?_
     refine Ae ?_
     exact ⟨(0 : Int), (⟨#[]⟩ : ByteArray), (⟨#[]⟩ : ByteArray), (⟨#[]⟩ : ByteArray), (2 : Int), hr, (em rfl h1), (em rfl h3), eh, rfl⟩
   refine Al (Af ?_)
   unfold NS
   refine Bn ?_
   unfold Mi
   refine AB (e_t h1) (by exact rfl) ?_
   refine Ap (e_t eh) ((Am rfl 0).trans rfl) (by exact rfl) ?_
   refine As (e_t eh) e_c (BK ?_)
   refine Ab (e_t eh) ?_
   refine Au eh hr (fun hr => ?_) (fun hr => ?_)
   · refine Ag eh (Ag (em rfl eh) (Ag (Ac rfl eh) (An (e_t (Ac rfl (em rfl eh))) e_c (Aa ?_))))
     unfold IP
     refine Ab (e_t eh) (Aa (Ae ?_))
     refine Dy (e_t eh) ?_
     refine Af ?_
     unfold Kc
     refine Ab e_c (Aa ?_)
     refine BB ?_
     refine Ae ?_
     exact ⟨(0 : Int), (⟨#[]⟩ : ByteArray), (⟨#[]⟩ : ByteArray), (⟨#[]⟩ : ByteArray), (1 : Int), hr, (Ak rfl (Ac rfl (em rfl h1))), (Ak rfl (Ac rfl (em rfl h3))), eh, rfl⟩
   refine Ai eh ?_
   refine AB (e_t (Ad rfl (em rfl h1))) (by exact rfl) ?_
   refine Ai (em rfl eh) ?_
   refine Ap (e_t eh) ((Am rfl 0).trans rfl) (by exact rfl) ?_
   refine Ai (Ac rfl eh) ?_
   refine As (e_t eh) e_c (BK ?_)
   refine Ao (e_t (Ac rfl (em rfl eh))) (e_t eh) (Aa ?_)
   unfold IP
   refine Ab (e_t eh) (Aa (Ae ?_))
   refine AC (e_t eh) hr (fun hr => ?_) (fun hr => ?_)
   · refine Af ?_
     unfold Kc
     refine Ab e_c (Aa ?_)
     refine BB ?_
     refine Ae ?_
     exact ⟨(0 : Int), (⟨#[]⟩ : ByteArray), (⟨#[]⟩ : ByteArray), (⟨#[]⟩ : ByteArray), (1 : Int), hr, (Ak rfl (Ac rfl (em rfl h1))), (Ak rfl (Ac rfl (em rfl h3))), eh, rfl⟩
   refine Al (Af ?_)
   unfold Og
   refine Ab e_c (Aa (Ae (AI ?_)))
   refine BH ?_
   refine AA ?_
   cases hr
   exact A7 (AG eh AH) (AN AF v_d) (Ay hwf) h
 refine Al (Af ?_)
 unfold NV
 refine AB (e_t h1) (by exact rfl) ?_
 refine Ap (e_t eh) ((Am rfl 0).trans rfl) (by exact rfl) ?_
 refine AB (e_t (Ac rfl h3)) (by exact rfl) ?_
 refine Bl (e_t eh) ((Am rfl 1).trans rfl) (e_t (em rfl eh)) A0 rfl (Nat.le_of_ble_eq_true rfl) (by exact rfl) (cells' := [(.d (.int .i64 p0.Op)), (.d (.int .i64 (0 : Int))), (.d (.str (⟨#[]⟩ : ByteArray))), (.d (.str p0.Name)), (.d (.str (⟨#[]⟩ : ByteArray))), (.ex [])]) (by exact rfl) (Bo rfl _ _) ?_
 refine Aa (Ae (Al (Al (Af ?_))))
 unfold OF
 refine AB (e_t (Ac rfl (em rfl h1))) (by exact rfl) ?_
 refine Ap (e_t eh) ((Am rfl 0).trans rfl) (by exact rfl) ?_
 obtain ⟨v3, hc_v3, hr⟩ := bind_some hr
 refine AJ (Ar (e_t eh) AF AM) ?_
 refine Ko n p0.Name hc_v3 ?_
 refine C2 (e_t eh) (Aa (Ae ?_))
 refine AC (e_t eh) hr (fun hr => ?_) (fun hr => ?_)
 · refine Al (Af ?_)
   unfold NT
   refine Ab e_c (Aa (Ae (AI (AA ?_))))
   refine BH ?_
   refine AA ?_
   cases hr
   exact A7 (AG eh AH) (AN AF v_d) (Ay hwf) h
 refine AO (Ae ?_)
 refine By (fun f st' => ∃ (v5 : ByteArray), DY p0 s_RBuiltExpr n v5 = some r ∧ f 1 = (.ptr (st.length + 0) 0) ∧ f 3 = (.ptr (st.length + 1) 0) ∧ f 4 = (.d (.int .i64 (0 : Int))) ∧ st' = st ++ [(.box [(.d (.int .i64 p0.Op)), (.d (.int .i64 p0.N)), (.d (.str p0.S)), (.d (.str p0.Name)), (.d (.str p0.Src)), (.d (.sl (List.map TE.row p0.Args)))]), (.box [(.d (.int .i64 p0.Op)), (.d (.int .i64 (0 : Int))), (.d (.str v5)), (.d (.str p0.Name)), (.d (.str (⟨#[]⟩ : ByteArray))), (.ex [])])]) ?_ ?_
 · refine Al (Af ?_)
   unfold OY
   refine AB (e_t (Ad rfl (Ac rfl (em rfl h1)))) (by exact rfl) ?_
   refine Ap (e_t eh) ((Am rfl 0).trans rfl) (by exact rfl) ?_
   refine As (e_t eh) e_c (BK ?_)
   refine Aa (Ae ?_)
   refine AC (e_t eh) hr (fun hr => ?_) (fun hr => ?_)
   rotate_left
   · refine AO (Ae ?_)
     exact ⟨(⟨#[]⟩ : ByteArray), hr, (Ak rfl (Ac rfl h1)), (Ak rfl (Ac rfl h3)), (Ak rfl (Ac rfl h4)), rfl⟩
   refine Al (Af ?_)
   unfold OK
   refine AB (e_t (Ak rfl (Ac rfl h1))) (by exact rfl) ?_
   refine Ap (e_t eh) ((Am rfl 0).trans rfl) (by exact rfl) ?_
   refine AB (e_t (Ak rfl (Ad rfl h3))) (by exact rfl) ?_
   refine Bl (e_t eh) ((Am rfl 1).trans rfl) (e_t (em rfl eh)) A0 rfl (Nat.le_of_ble_eq_true rfl) (by exact rfl) (cells' := [(.d (.int .i64 p0.Op)), (.d (.int .i64 (0 : Int))), (.d (.str p0.S)), (.d (.str p0.Name)), (.d (.str (⟨#[]⟩ : ByteArray))), (.ex [])]) (by exact rfl) (Bo rfl _ _) ?_
   refine Aa (Ae (Al (Af ?_)))
   unfold Od
   refine AB (e_t (Ak rfl (Ad rfl (em rfl h1)))) (by exact rfl) ?_
   refine Ap (e_t eh) ((Am rfl 0).trans rfl) (by exact rfl) ?_
   obtain ⟨v4, hc_v4, hr⟩ := bind_some hr
   refine AJ (Ar (e_t eh) AF AM) ?_
   refine Ko n p0.S hc_v4 ?_
   refine C2 (e_t eh) (Aa (Ae ?_))
   refine AC (e_t eh) hr (fun hr => ?_) (fun hr => ?_)
   rotate_left
   · refine AO (Ae ?_)
     exact ⟨p0.S, hr, (Aj rfl (em rfl h1)), (Aj rfl (em rfl h3)), (Aj rfl (em rfl h4)), rfl⟩
   refine Al (Af ?_)
   unfold OP
   refine Ab e_c (Aa (Ae (AI (AA ?_))))
   refine BH ?_
   refine AA ?_
   cases hr
   exact A7 (AG eh AH) (AN AF v_d) (Ay hwf) h
 rintro f st' ⟨v5, hr, h1, h3, h4, rfl⟩
 rw [DY] at hr
 refine Al (Af ?_)
 unfold OT
 refine AB (e_t h1) (by exact rfl) ?_
 refine Ap (e_t eh) ((Am rfl 0).trans rfl) (by exact rfl) ?_
 refine As (e_t eh) e_c (C8 ?_)
 refine Aa (Ae ?_)
 refine AC (e_t eh) hr (fun hr => ?_) (fun hr => ?_)
 rotate_left
 · refine AO ?_
   refine BB ?_
   refine Ae ?_
   exact ⟨(0 : Int), v5, p0.Name, (⟨#[]⟩ : ByteArray), (0 : Int), hr, (Ac rfl (em rfl h1)), (Ac rfl (em rfl h3)), (Ac rfl (em rfl h4)), rfl⟩
 refine Al (Af ?_)
 unfold NQ
 refine AB (e_t (Ac rfl (em rfl h1))) (by exact rfl) ?_
 refine Ap (e_t eh) ((Am rfl 0).trans rfl) (by exact rfl) ?_
 refine AB (e_t (Ad rfl (em rfl h3))) (by exact rfl) ?_
 refine Bl (e_t eh) ((Am rfl 1).trans rfl) (e_t (em rfl eh)) A0 rfl (Nat.le_of_ble_eq_true rfl) (by exact rfl) (cells' := [(.d (.int .i64 p0.Op)), (.d (.int .i64 (0 : Int))), (.d (.str v5)), (.d (.str p0.Name)), (.d (.str p0.Src)), (.ex [])]) (by exact rfl) (Bo rfl _ _) ?_
 refine Aa (Ae (Al (Af ?_)))
 unfold NW
 refine Ab e_c (Aa (Ae ?_))
 refine By (fun f st' => ∃ (v6 : Int), DZ p0 s_RBuiltExpr n v5 v6 = some r ∧ f 1 = (.ptr (st.length + 0) 0) ∧ f 3 = (.ptr (st.length + 1) 0) ∧ f 4 = (.d (.int .i64 v6)) ∧ st' = st ++ [(.box [(.d (.int .i64 p0.Op)), (.d (.int .i64 p0.N)), (.d (.str p0.S)), (.d (.str p0.Name)), (.d (.str p0.Src)), (.d (.sl (List.map TE.row p0.Args)))]), (.box [(.d (.int .i64 p0.Op)), (.d (.int .i64 (0 : Int))), (.d (.str v5)), (.d (.str p0.Name)), (.d (.str p0.Src)), (.ex [])])]) ?_ ?_
 · refine Al (Af ?_)
   unfold OL
   refine AB (e_t (Ad rfl (Ac rfl (em rfl h1)))) (by exact rfl) ?_
   refine Ap (e_t eh) ((Am rfl 0).trans rfl) (by exact rfl) ?_
   refine As (e_t eh) e_c (BK ?_)
   refine Aa (Ae ?_)
   refine AC (e_t eh) hr (fun hr => ?_) (fun hr => ?_)
   rotate_left
   · refine AO (Ae ?_)
     exact ⟨(2 : Int), hr, (Ak rfl (Ac rfl h1)), (Ak rfl (Ac rfl h3)), (Ac rfl (em rfl eh)), rfl⟩
   refine Af ?_
   unfold Ou
   refine Ab e_c (Aa (Ae ?_))
   exact ⟨(1 : Int), hr, (Ak rfl (Ac rfl (em rfl h1))), (Ak rfl (Ac rfl (em rfl h3))), eh, rfl⟩
 rintro f st' ⟨v6, hr, h1, h3, h4, rfl⟩
 rw [DZ] at hr
 refine Al (Af ?_)
 unfold NU
 refine AB (e_t h1) (by exact rfl) ?_
 refine Ap (e_t eh) ((Am rfl 0).trans rfl) (by exact rfl) ?_
 obtain ⟨v7, hc_v7, hr⟩ := bind_some hr
 refine AJ (Ar (e_t eh) AF AM) ?_
 refine Ko n p0.Src hc_v7 ?_
 refine C2 (e_t eh) (Aa (Ae ?_))
 refine AC (e_t eh) hr (fun hr => ?_) (fun hr => ?_)
 rotate_left
 · refine AO ?_
   refine BB ?_
   refine Ae ?_
   exact ⟨(0 : Int), v5, p0.Name, p0.Src, v6, hr, (Ad rfl h1), (Ad rfl h3), (Ad rfl h4), rfl⟩
 refine Al (Af ?_)
 unfold Ot
 refine Ab e_c (Aa (Ae (AI ?_)))
 refine BH ?_
 refine AA ?_
 cases hr
 exact A7 (AG eh AH) (AN AF v_d) (Ay hwf) h
def BE : Nat → TE → Option Bool
 | 0, _ => none
 | n + 1, p0 => FB (BE n) n p0
theorem Sx : ∀ n : Nat, (∀ (p0 : TE) {r : Bool}, BE n p0 = some r → ∀ {st : List Content} {K : PV → List Content → Prop} (h : K (.d (.bool r)) st), Av PR G2 [(.agg [(.d (.int .i64 p0.Op)), (.d (.int .i64 p0.N)), (.d (.str p0.S)), (.d (.str p0.Name)), (.d (.str p0.Src)), (.d (.sl (List.map TE.row p0.Args)))])] st K)
 | 0 => fun _ _ hr => (by rw [BE] at hr; cases hr)
 | n + 1 => fun p0 _ hr _ _ h => Af8 (BE n) n p0 (Sx n) (by rw [BE] at hr; exact hr) h
theorem Ao9 (n : Nat) (p0 : TE) {r : Bool} (hr : BE n p0 = some r) {K : PV → List Content → Prop} (h : K (.d (.bool r)) st) : Av PR G2 [(.agg [(.d (.int .i64 p0.Op)), (.d (.int .i64 p0.N)), (.d (.str p0.S)), (.d (.str p0.Name)), (.d (.str p0.Src)), (.d (.sl (List.map TE.row p0.Args)))])] st K := (Sx n) p0 hr h
end Go.Ax
