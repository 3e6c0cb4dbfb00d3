import Derived.Test.YtojkpenjeglipaaPYT
import Derived.Test.YtojkpenjeglipaaPCVX
import Derived.Test.YtojkpenjeglipaaPCPrim
import Derived.Test.YtojkpenjeglipaaPYD18
set_option linter.unusedVariables false
set_option linter.unusedSimpArgs false
namespace Go.Ax
attribute [local irreducible] BQ EX FK Bg CQ FI B8 Le Ii upd ev u0 Dw frz A9 EK mmD bnd B2 FD Dq CR G3 HS Hg cutV JT Cy
variable {st : List Content}
def Jj (p1 : TE) (s_Rsources : (List ByteArray) → TE → Option (List ByteArray)) (q0 : (List ByteArray) → Int → Option (List ByteArray)) (v4 : (List ByteArray)) (v5 : Int) : Option (List ByteArray) :=
 (bif (decide (v5 < (p1.Args.length : Int))) then ((Dd p1.Args v5).bind fun v6 => ((s_Rsources v4 v6).bind fun v7 => q0 v7 (IntKind.wrap .i64 (v5 + (1 : Int))))) else some v4)
def Dx (p1 : TE) (s_Rsources : (List ByteArray) → TE → Option (List ByteArray)) : Nat → (List ByteArray) → Int → Option (List ByteArray)
 | 0, _, _ => none
 | m + 1, v4, v5 => Jj p1 s_Rsources (Dx p1 s_Rsources m) v4 v5
def d_Rsources_j0 (p1 : TE) (s_Rsources : (List ByteArray) → TE → Option (List ByteArray)) (n : Nat) (v3 : (List ByteArray)) : Option (List ByteArray) :=
 (Dx p1 s_Rsources n v3 (0 : Int))
def Lb (s_Rsources : (List ByteArray) → TE → Option (List ByteArray)) (n : Nat) (p0 : (List ByteArray)) (p1 : TE) : Option (List ByteArray) :=
 (bif (decide ((21 : Int) ≤ p1.Op)) then ((Wm n p0 p1.Src).bind fun v2 => (d_Rsources_j0 p1 s_Rsources n v2)) else (d_Rsources_j0 p1 s_Rsources n p0))
set_option maxRecDepth 100000 in
set_option maxHeartbeats 4000000 in
theorem At4 (s_Rsources : (List ByteArray) → TE → Option (List ByteArray)) (n : Nat) (p0 : (List ByteArray)) (p1 : TE) (H_s_Rsources : ∀ (p0 : (List ByteArray)) (p1 : TE) {r : (List ByteArray)}, s_Rsources p0 p1 = some r → ∀ {st : List Content} {K : PV → List Content → Prop} (h : K (.d (.sl (List.map rS r))) st), Av PR IV [(.d (.sl (List.map rS p0))), (.agg [(.d (.int .i64 p1.Op)), (.d (.int .i64 p1.N)), (.d (.str p1.S)), (.d (.str p1.Name)), (.d (.str p1.Src)), (.d (.sl (List.map TE.row p1.Args)))])] st K) {r : (List ByteArray)} (hr : Lb s_Rsources n p0 p1 = some r) {K : PV → List Content → Prop} (h : K (.d (.sl (List.map rS r))) st) : Av PR IV [(.d (.sl (List.map rS p0))), (.agg [(.d (.int .i64 p1.Op)), (.d (.int .i64 p1.N)), (.d (.str p1.S)), (.d (.str p1.Name)), (.d (.str p1.Src)), (.d (.sl (List.map TE.row p1.Args)))])] st K := by
 refine Av.of AE1 (Nat.le_of_ble_eq_true rfl) fun hwf => ?_
 rw [Ed]
 refine AQ ?_
 unfold Aa0
 rw [Lb] at hr
 refine Al (Af ?_)
 unfold Sj
 refine Gq (k := 0) rfl rfl (e_t (em rfl eh)) Bf (by exact rfl) ?_
 refine Ab e_c (Aa (Ae ?_))
 refine By (fun f st' => ∃ (v3 : (List ByteArray)), d_Rsources_j0 p1 s_Rsources n v3 = some r ∧ f 0 = (.d (.sl (List.map rS v3))) ∧ f 3 = (.ptr (st.length + 0) 0) ∧ st' = st ++ [(.box [(.d (.int .i64 p1.Op)), (.d (.int .i64 p1.N)), (.d (.str p1.S)), (.d (.str p1.Name)), (.d (.str p1.Src)), (.d (.sl (List.map TE.row p1.Args)))])]) ?_ ?_
 · refine Al (Af ?_)
   unfold Sa
   refine AB (e_t (em rfl eh)) (by exact rfl) ?_
   refine Ap (e_t eh) ((Am rfl 0).trans rfl) (by exact rfl) ?_
   refine As (e_t eh) e_c (Ei ?_)
   refine Aa (Ae ?_)
   refine AC (e_t eh) hr (fun hr => ?_) (fun hr => ?_)
   rotate_left
   · refine AO (Ae ?_)
     exact ⟨p0, hr, (Ad rfl (em rfl eh)), (Ad rfl eh), rfl⟩
   refine Af ?_
   unfold SH
   refine Ab (e_t (Ad rfl (em rfl eh))) ?_
   refine AB (e_t (Ad rfl (em rfl eh))) (by exact rfl) ?_
   refine Ap (e_t eh) ((Am rfl 0).trans rfl) (by exact rfl) ?_
   obtain ⟨v2, hc_v2, hr⟩ := bind_some hr
   refine AJ (Ar (e_t (Ac rfl eh)) AF (Ar (e_t eh) AF AM)) ?_
   refine AM5 n p0 p1.Src hc_v2 ?_
   refine Ab (e_t eh) (Aa (Ae ?_))
   exact ⟨v2, hr, eh, (Ak rfl (em rfl eh)), rfl⟩
 rintro f st' ⟨v3, hr, h0, h3, rfl⟩
 rw [d_Rsources_j0] at hr
 refine Al (Al (Af ?_))
 unfold Su
 refine Ab e_c (Aa (Ae ?_))
 refine AT ?_
 refine BX (fun m f st' => ∃ (v4 : (List ByteArray)), ∃ (v5 : Int), Dx p1 s_Rsources m v4 v5 = some r ∧ f 0 = (.d (.sl (List.map rS v4))) ∧ f 3 = (.ptr (st.length + 0) 0) ∧ f 5 = (.d (.int .i64 v5)) ∧ st' = st ++ [(.box [(.d (.int .i64 p1.Op)), (.d (.int .i64 p1.N)), (.d (.str p1.S)), (.d (.str p1.Name)), (.d (.str p1.Src)), (.d (.sl (List.map TE.row p1.Args)))])]) n (Ghost.refl _) ⟨v3, (0 : Int), hr, (em rfl h0), (em rfl h3), eh, rfl⟩ ?_
 rintro m f st' ⟨v4, v5, hr, h0, h3, h5, rfl⟩
 cases m with
 | zero => cases hr
 | succ m_0 =>
   rw [Dx] at hr
   generalize hrec_0 : Dx p1 s_Rsources m_0 = q0 at hr
   rw [Jj] at hr
   unfold SC
   refine Al (Al (Af ?_))
   unfold Sw
   refine Ab (e_t h5) ?_
   refine AB (e_t (em rfl h3)) (by exact rfl) ?_
   refine Ap (e_t eh) ((Am rfl 0).trans rfl) (by exact rfl) ?_
   refine Bh (row := TE.row) (AP (e_t eh) Bt) ?_
   refine As (e_t (Ac rfl (em rfl eh))) (e_t eh) (CM ?_)
   refine Aa (Ae ?_)
   refine AC (e_t eh) hr (fun hr => ?_) (fun hr => ?_)
   rotate_left
   · refine CG ?_
     refine AW ?_
     refine AW ?_
     refine DF ?_
     refine Ae (Al (Af ?_))
     unfold Sc
     refine Ab (e_t (Ad rfl (em rfl h0))) (Ab (e_t eh) (Aa (Ae (AI ?_))))
     cases hr
     exact A7 (AG eh AH) (AN AF v_d) (Ay hwf) h
   refine AO (Ae (Al ?_))
   refine AT ?_
   refine Af ?_
   unfold SF
   refine Ab (e_t (Ad rfl (em rfl h0))) ?_
   refine AB (e_t (Ad rfl (Ac rfl h3))) (by exact rfl) ?_
   refine Ap (e_t eh) ((Am rfl 0).trans rfl) (by exact rfl) ?_
   refine Ab (e_t (Ad rfl (Ad rfl h5))) ?_
   refine Br (row := TE.row) (AP (e_t (em rfl eh)) Bt) (e_t eh) hr TE.row_eq (fun _ => rfl) (fun v6 hr => ?_)
   refine Dc (e_t eh) (Nat.le_of_ble_eq_true rfl) (by exact rfl) ?_
   obtain ⟨v7, hc_v7, hr⟩ := bind_some hr
   refine AJ (Ar (e_t (Ad rfl (em rfl eh))) AF (Ar (e_t eh) (Bx (Aq f_d (Aq f_d (Aq f_d (Aq f_d (Aq f_d (Aq f_d B3))))))) AM)) ?_
   refine H_s_Rsources v4 v6 hc_v7 ?_
   refine Ab (e_t eh) (Aa ?_)
   refine BB ?_
   refine Ae (Af ?_)
   unfold R5
   refine Ab (e_t (Ak rfl (Ad rfl (em rfl h5)))) ?_
   refine As (e_t eh) e_c (BU ?_)
   refine Ab (e_t eh) (Aa (Ae ?_))
   exact ⟨m_0, _, Nat.lt_succ_self m_0, Ghost.refl _, v7, (IntKind.wrap .i64 (v5 + (1 : Int))), (by rw [hrec_0]; exact hr), (Ac rfl (em rfl eh)), (Ak rfl (Ad rfl (Ad rfl h3))), eh, rfl⟩
def DB : Nat → (List ByteArray) → TE → Option (List ByteArray)
 | 0, _, _ => none
 | n + 1, p0, p1 => Lb (DB n) n p0 p1
theorem W6 : ∀ n : Nat, (∀ (p0 : (List ByteArray)) (p1 : TE) {r : (List ByteArray)}, DB n p0 p1 = some r → ∀ {st : List Content} {K : PV → List Content → Prop} (h : K (.d (.sl (List.map rS r))) st), Av PR IV [(.d (.sl (List.map rS p0))), (.agg [(.d (.int .i64 p1.Op)), (.d (.int .i64 p1.N)), (.d (.str p1.S)), (.d (.str p1.Name)), (.d (.str p1.Src)), (.d (.sl (List.map TE.row p1.Args)))])] st K)
 | 0 => fun _ _ _ hr => (by rw [DB] at hr; cases hr)
 | n + 1 => fun p0 p1 _ hr _ _ h => At4 (DB n) n p0 p1 (W6 n) (by rw [DB] at hr; exact hr) h
theorem AD5 (n : Nat) (p0 : (List ByteArray)) (p1 : TE) {r : (List ByteArray)} (hr : DB n p0 p1 = some r) {K : PV → List Content → Prop} (h : K (.d (.sl (List.map rS r))) st) : Av PR IV [(.d (.sl (List.map rS p0))), (.agg [(.d (.int .i64 p1.Op)), (.d (.int .i64 p1.N)), (.d (.str p1.S)), (.d (.str p1.Name)), (.d (.str p1.Src)), (.d (.sl (List.map TE.row p1.Args)))])] st K := (W6 n) p0 p1 hr h
def Ki (p2 : Int) (s_RUses : (List ByteArray) → (List TS) → Int → Option (List ByteArray)) (v4 : Int) (q0 : (List ByteArray) → Int → Option (List ByteArray)) (v5 : TS) (v12 : (List ByteArray)) : Option (List ByteArray) :=
 ((s_RUses v12 v5.Body p2).bind fun v17 => ((s_RUses v17 v5.Else p2).bind fun v18 => q0 v18 (IntKind.wrap .i64 (v4 + (1 : Int)))))
def IQ (p2 : Int) (s_RUses : (List ByteArray) → (List TS) → Int → Option (List ByteArray)) (n : Nat) (v4 : Int) (q0 : (List ByteArray) → Int → Option (List ByteArray)) (v5 : TS) (v12 : (List ByteArray)) (v13 : Int) (q1 : (List ByteArray) → Int → Option (List ByteArray)) (v14 : Bool) : Option (List ByteArray) :=
 (bif v14 then ((Dd v5.Exprs v13).bind fun v15 => ((DB n v12 v15).bind fun v16 => q1 v16 (IntKind.wrap .i64 (v13 + (1 : Int))))) else (Ki p2 s_RUses v4 q0 v5 v12))
def KC (p2 : Int) (s_RUses : (List ByteArray) → (List TS) → Int → Option (List ByteArray)) (n : Nat) (v4 : Int) (q0 : (List ByteArray) → Int → Option (List ByteArray)) (v5 : TS) (q1 : (List ByteArray) → Int → Option (List ByteArray)) (v12 : (List ByteArray)) (v13 : Int) : Option (List ByteArray) :=
 (bif (decide (v13 < (v5.Exprs.length : Int))) then (IQ p2 s_RUses n v4 q0 v5 v12 v13 q1 (decide (p2 = (0 : Int)))) else (IQ p2 s_RUses n v4 q0 v5 v12 v13 q1 false))
def Fw (p2 : Int) (s_RUses : (List ByteArray) → (List TS) → Int → Option (List ByteArray)) (n : Nat) (v4 : Int) (q0 : (List ByteArray) → Int → Option (List ByteArray)) (v5 : TS) : Nat → (List ByteArray) → Int → Option (List ByteArray)
 | 0, _, _ => none
 | m + 1, v12, v13 => KC p2 s_RUses n v4 q0 v5 (Fw p2 s_RUses n v4 q0 v5 m) v12 v13
def d_RUses_j0 (p2 : Int) (s_RUses : (List ByteArray) → (List TS) → Int → Option (List ByteArray)) (n : Nat) (v4 : Int) (q0 : (List ByteArray) → Int → Option (List ByteArray)) (v5 : TS) (v11 : (List ByteArray)) : Option (List ByteArray) :=
 (Fw p2 s_RUses n v4 q0 v5 n v11 (0 : Int))
def ER (p2 : Int) (s_RUses : (List ByteArray) → (List TS) → Int → Option (List ByteArray)) (n : Nat) (v3 : (List ByteArray)) (v4 : Int) (q0 : (List ByteArray) → Int → Option (List ByteArray)) (v5 : TS) (v9 : Bool) : Option (List ByteArray) :=
 (bif v9 then ((Wm n v3 v5.Src).bind fun v10 => (d_RUses_j0 p2 s_RUses n v4 q0 v5 v10)) else (d_RUses_j0 p2 s_RUses n v4 q0 v5 v3))
def IM (p2 : Int) (s_RUses : (List ByteArray) → (List TS) → Int → Option (List ByteArray)) (n : Nat) (v3 : (List ByteArray)) (v4 : Int) (q0 : (List ByteArray) → Int → Option (List ByteArray)) (v5 : TS) (v8 : Bool) : Option (List ByteArray) :=
 (bif v8 then (ER p2 s_RUses n v3 v4 q0 v5 true) else (bif (decide (p2 = (2 : Int))) then (ER p2 s_RUses n v3 v4 q0 v5 (decide (v5.Op = (8 : Int)))) else (ER p2 s_RUses n v3 v4 q0 v5 false)))
def Mh (p2 : Int) (s_RUses : (List ByteArray) → (List TS) → Int → Option (List ByteArray)) (n : Nat) (v3 : (List ByteArray)) (v4 : Int) (q0 : (List ByteArray) → Int → Option (List ByteArray)) (v5 : TS) (v7 : Bool) : Option (List ByteArray) :=
 (bif v7 then (IM p2 s_RUses n v3 v4 q0 v5 true) else (bif (decide (p2 = (1 : Int))) then (bif (decide ((3 : Int) ≤ v5.Op)) then (IM p2 s_RUses n v3 v4 q0 v5 (decide (v5.Op ≤ (5 : Int)))) else (IM p2 s_RUses n v3 v4 q0 v5 false)) else (IM p2 s_RUses n v3 v4 q0 v5 false)))
def LB (p2 : Int) (s_RUses : (List ByteArray) → (List TS) → Int → Option (List ByteArray)) (n : Nat) (v3 : (List ByteArray)) (v4 : Int) (q0 : (List ByteArray) → Int → Option (List ByteArray)) (v5 : TS) (v6 : Bool) : Option (List ByteArray) :=
 (bif v6 then (Mh p2 s_RUses n v3 v4 q0 v5 (decide (v5.Op ≤ (6 : Int)))) else (Mh p2 s_RUses n v3 v4 q0 v5 false))
def Nt (p1 : (List TS)) (p2 : Int) (s_RUses : (List ByteArray) → (List TS) → Int → Option (List ByteArray)) (n : Nat) (q0 : (List ByteArray) → Int → Option (List ByteArray)) (v3 : (List ByteArray)) (v4 : Int) : Option (List ByteArray) :=
 (bif (decide (v4 < (p1.length : Int))) then ((Dd p1 v4).bind fun v5 => (bif (decide (p2 = (0 : Int))) then (LB p2 s_RUses n v3 v4 q0 v5 (decide ((4 : Int) ≤ v5.Op))) else (LB p2 s_RUses n v3 v4 q0 v5 false))) else some v3)
def Fy (p1 : (List TS)) (p2 : Int) (s_RUses : (List ByteArray) → (List TS) → Int → Option (List ByteArray)) (n : Nat) : Nat → (List ByteArray) → Int → Option (List ByteArray)
 | 0, _, _ => none
 | m + 1, v3, v4 => Nt p1 p2 s_RUses n (Fy p1 p2 s_RUses n m) v3 v4
def RM (s_RUses : (List ByteArray) → (List TS) → Int → Option (List ByteArray)) (n : Nat) (p0 : (List ByteArray)) (p1 : (List TS)) (p2 : Int) : Option (List ByteArray) :=
 (Fy p1 p2 s_RUses n n p0 (0 : Int))
set_option maxRecDepth 100000 in
set_option maxHeartbeats 4000000 in
theorem AQ3 (s_RUses : (List ByteArray) → (List TS) → Int → Option (List ByteArray)) (n : Nat) (p0 : (List ByteArray)) (p1 : (List TS)) (p2 : Int) (H_s_RUses : ∀ (p0 : (List ByteArray)) (p1 : (List TS)) (p2 : Int) {r : (List ByteArray)}, s_RUses p0 p1 p2 = some r → ∀ {st : List Content} {K : PV → List Content → Prop} (h : K (.d (.sl (List.map rS r))) st), Av PR Ks [(.d (.sl (List.map rS p0))), (.d (.sl (List.map TS.row p1))), (.d (.int .i64 p2))] st K) {r : (List ByteArray)} (hr : RM s_RUses n p0 p1 p2 = some r) {K : PV → List Content → Prop} (h : K (.d (.sl (List.map rS r))) st) : Av PR Ks [(.d (.sl (List.map rS p0))), (.d (.sl (List.map TS.row p1))), (.d (.int .i64 p2))] st K := by
 refine Av.of AV1 (Nat.le_of_ble_eq_true rfl) fun hwf => ?_
 rw [Yk]
 refine AQ ?_
 unfold AG4
 rw [RM] at hr
 refine Al (Af ?_)
 unfold YD
 refine Ab e_c (Aa (Ae (Al (Al (Af ?_)))))
 unfold Zj
 refine Ab e_c (Aa (Ae ?_))
 refine AT ?_
 refine BX (fun m f st' => ∃ (v3 : (List ByteArray)), ∃ (v4 : Int), Fy p1 p2 s_RUses n m v3 v4 = some r ∧ f 0 = (.d (.sl (List.map rS v3))) ∧ f 1 = (.d (.sl (List.map TS.row p1))) ∧ f 2 = (.d (.int .i64 p2)) ∧ f 7 = (.d (.int .i64 v4)) ∧ st' = st ++ []) n (Ghost.refl _) ⟨p0, (0 : Int), hr, (Ac rfl eh), (Ac rfl (em rfl eh)), (Ad rfl eh), eh, rfl⟩ ?_
 rintro m f st' ⟨v3, v4, hr, h0, h1, h2, h7, rfl⟩
 cases m with
 | zero => cases hr
 | succ m_0 =>
   rw [Fy] at hr
   generalize hrec_0 : Fy p1 p2 s_RUses n m_0 = q0 at hr
   rw [Nt] at hr
   unfold Xs
   refine Al (Al (Af ?_))
   unfold Zd
   refine Ab (e_t h7) (Ab (e_t (em rfl h1)) ?_)
   refine Bh (row := TS.row) (AP (e_t eh) Bt) ?_
   refine As (e_t (Ac rfl eh)) (e_t eh) (CM ?_)
   refine Aa (Ae ?_)
   refine AC (e_t eh) hr (fun hr => ?_) (fun hr => ?_)
   rotate_left
   · refine CG ?_
     refine AW ?_
     refine AW ?_
     refine DF ?_
     refine Ae (Al (Af ?_))
     unfold XD
     refine Ab (e_t (Ad rfl h0)) (Ab (e_t eh) (Aa (Ae (AI ?_))))
     cases hr
     exact A7 (AG eh AH) (AN AF v_d) (Ay hwf) h
   refine AO (Ae (Al ?_))
   refine AT ?_
   refine Al (Af ?_)
   unfold YE
   refine Ab (e_t (Ad rfl h1)) (Ab (e_t (Ad rfl (em rfl h7))) ?_)
   refine Br (row := TS.row) (AP (e_t (em rfl eh)) Bt) (e_t eh) hr TS.row_eq (fun _ => rfl) (fun v5 hr => ?_)
   refine Dc (e_t eh) (Nat.le_of_ble_eq_true rfl) (by exact rfl) ?_
   refine Cn (k := 0) rfl rfl ?_
   refine Bl (e_t eh) ((Am rfl 0).trans rfl) (e_t (em rfl eh)) Bf rfl (Nat.le_of_ble_eq_true rfl) (by exact rfl) (cells' := [(.d (.int .i64 v5.Op)), (.d (.str v5.Name)), (.d (.str v5.Src)), (.d (.int .i64 v5.N)), (.d (.sl (List.map rS v5.Cols))), (.d (.sl (List.map TE.row v5.Exprs))), (.d (.sl (List.map TS.row v5.Body))), (.d (.sl (List.map TS.row v5.Else)))]) (by exact rfl) (Bo rfl _ _) ?_
   refine Aa (Ae ?_)
   refine By (fun f st' => ∃ (v11 : (List ByteArray)), d_RUses_j0 p2 s_RUses n v4 q0 v5 v11 = some r ∧ f 0 = (.d (.sl (List.map rS v11))) ∧ f 1 = (.d (.sl (List.map TS.row p1))) ∧ f 2 = (.d (.int .i64 p2)) ∧ f 7 = (.d (.int .i64 v4)) ∧ f 8 = (.ptr (st.length + 0) 0) ∧ st' = st ++ [(.box [(.d (.int .i64 v5.Op)), (.d (.str v5.Name)), (.d (.str v5.Src)), (.d (.int .i64 v5.N)), (.d (.sl (List.map rS v5.Cols))), (.d (.sl (List.map TE.row v5.Exprs))), (.d (.sl (List.map TS.row v5.Body))), (.d (.sl (List.map TS.row v5.Else)))])]) ?_ ?_
   rotate_left
   · rintro f st' ⟨v11, hr, h0, h1, h2, h7, h8, rfl⟩
     rw [d_RUses_j0] at hr
     refine By (fun f st' => ∃ (v12 : (List ByteArray)), Ki p2 s_RUses v4 q0 v5 v12 = some r ∧ f 0 = (.d (.sl (List.map rS v12))) ∧ f 1 = (.d (.sl (List.map TS.row p1))) ∧ f 2 = (.d (.int .i64 p2)) ∧ f 7 = (.d (.int .i64 v4)) ∧ f 8 = (.ptr (st.length + 0) 0) ∧ st' = st ++ [(.box [(.d (.int .i64 v5.Op)), (.d (.str v5.Name)), (.d (.str v5.Src)), (.d (.int .i64 v5.N)), (.d (.sl (List.map rS v5.Cols))), (.d (.sl (List.map TE.row v5.Exprs))), (.d (.sl (List.map TS.row v5.Body))), (.d (.sl (List.map TS.row v5.Else)))])]) ?_ ?_
     rotate_left
     · rintro f st' ⟨v12, hr, h0, h1, h2, h7, h8, rfl⟩
       rw [Ki] at hr
       refine Al (Af ?_)
       unfold W4
       refine Ab (e_t h0) ?_
       refine AB (e_t (em rfl h8)) (by exact rfl) ?_
       refine Ap (e_t eh) ((Am rfl 0).trans rfl) (by exact rfl) ?_
       refine Ab (e_t (Ac rfl (em rfl h2))) ?_
       obtain ⟨v17, hc_v17, hr⟩ := bind_some hr
       refine AJ (Ar (e_t (Ac rfl (em rfl eh))) AF (Ar (e_t (em rfl eh)) AF (Ar (e_t eh) AF AM))) ?_
       refine H_s_RUses v12 v5.Body p2 hc_v17 ?_
       refine Ab (e_t eh) (Aa (Ae (Af ?_)))
       unfold Xk
       refine Ab (e_t eh) ?_
       refine AB (e_t (Ad rfl (Ac rfl (em rfl h8)))) (by exact rfl) ?_
       refine Ap (e_t eh) ((Am rfl 0).trans rfl) (by exact rfl) ?_
       refine Ab (e_t (Ak rfl (em rfl h2))) ?_
       obtain ⟨v18, hc_v18, hr⟩ := bind_some hr
       refine AJ (Ar (e_t (Ac rfl (em rfl eh))) AF (Ar (e_t (em rfl eh)) AF (Ar (e_t eh) AF AM))) ?_
       refine H_s_RUses v17 v5.Else p2 hc_v18 ?_
       refine Ab (e_t eh) (Aa ?_)
       refine BB ?_
       refine Ae (Af ?_)
       unfold Xf
       refine Ab (e_t (Ak rfl (Ad rfl h7))) ?_
       refine As (e_t eh) e_c (BU ?_)
       refine Ab (e_t eh) (Aa (Ae ?_))
       exact ⟨m_0, _, Nat.lt_succ_self m_0, Ghost.cut _ (st.length + 0) (Nat.le_add_right _ _), v18, (IntKind.wrap .i64 (v4 + (1 : Int))), (by rw [hrec_0]; exact hr), ((congrArg (cutV _) (Ac rfl (em rfl eh))).trans (v_d)), ((congrArg (cutV _) (Ak rfl (Ad rfl (Ac rfl (em rfl h1))))).trans (v_d)), ((congrArg (cutV _) (Ak rfl (Ad rfl (Ac rfl (em rfl h2))))).trans (v_d)), ((congrArg (cutV _) eh).trans (v_d)), (EN (l0 := []) (l1 := _) hwf rfl rfl rfl)⟩
     refine Al (Af ?_)
     unfold Y2
     refine Ab e_c (Aa (Ae ?_))
     refine AT ?_
     refine BX (fun m f st' => ∃ (v12 : (List ByteArray)), ∃ (v13 : Int), Fw p2 s_RUses n v4 q0 v5 m v12 v13 = some r ∧ f 0 = (.d (.sl (List.map rS v12))) ∧ f 1 = (.d (.sl (List.map TS.row p1))) ∧ f 2 = (.d (.int .i64 p2)) ∧ f 7 = (.d (.int .i64 v4)) ∧ f 8 = (.ptr (st.length + 0) 0) ∧ f 9 = (.d (.int .i64 v13)) ∧ st' = st ++ [(.box [(.d (.int .i64 v5.Op)), (.d (.str v5.Name)), (.d (.str v5.Src)), (.d (.int .i64 v5.N)), (.d (.sl (List.map rS v5.Cols))), (.d (.sl (List.map TE.row v5.Exprs))), (.d (.sl (List.map TS.row v5.Body))), (.d (.sl (List.map TS.row v5.Else)))])]) n (Ghost.refl _) ⟨v11, (0 : Int), hr, (em rfl h0), (em rfl h1), (em rfl h2), (em rfl h7), (em rfl h8), eh, rfl⟩ ?_
     rintro m f st' ⟨v12, v13, hr, h0, h1, h2, h7, h8, h9, rfl⟩
     cases m with
     | zero => cases hr
     | succ m_1 =>
       rw [Fw] at hr
       generalize hrec_1 : Fw p2 s_RUses n v4 q0 v5 m_1 = q1 at hr
       rw [KC] at hr
       unfold WR
       refine Al ?_
       refine By (fun f st' => ∃ (v14 : Bool), IQ p2 s_RUses n v4 q0 v5 v12 v13 q1 v14 = some r ∧ f 0 = (.d (.sl (List.map rS v12))) ∧ f 1 = (.d (.sl (List.map TS.row p1))) ∧ f 2 = (.d (.int .i64 p2)) ∧ f 7 = (.d (.int .i64 v4)) ∧ f 8 = (.ptr (st.length + 0) 0) ∧ f 9 = (.d (.int .i64 v13)) ∧ f 67 = (.d (.bool v14)) ∧ st' = st ++ [(.box [(.d (.int .i64 v5.Op)), (.d (.str v5.Name)), (.d (.str v5.Src)), (.d (.int .i64 v5.N)), (.d (.sl (List.map rS v5.Cols))), (.d (.sl (List.map TE.row v5.Exprs))), (.d (.sl (List.map TS.row v5.Body))), (.d (.sl (List.map TS.row v5.Else)))])]) ?_ ?_
       · refine Af ?_
         unfold ZO
         refine Ab (e_t h9) ?_
         refine AB (e_t (em rfl h8)) (by exact rfl) ?_
         refine Ap (e_t eh) ((Am rfl 0).trans rfl) (by exact rfl) ?_
         refine Bh (row := TE.row) (AP (e_t eh) Bt) ?_
         refine As (e_t (Ac rfl (em rfl eh))) (e_t eh) (CM ?_)
         refine Ab (e_t eh) ?_
         refine Au eh hr (fun hr => ?_) (fun hr => ?_)
         rotate_left
         · refine Ag eh (Ag (em rfl eh) (Ao (e_t (Ac rfl eh)) e_c (Aa (Ae ?_))))
           exact ⟨false, hr, (Ak rfl (Ac rfl h0)), (Ak rfl (Ac rfl h1)), (Ak rfl (Ac rfl h2)), (Ak rfl (Ac rfl h7)), (Ak rfl (Ac rfl h8)), (Ak rfl (Ac rfl h9)), eh, rfl⟩
         refine Ai eh (Ab (e_t (Ad rfl (Ac rfl (em rfl h2)))) (Ai (em rfl eh) ?_))
         refine As (e_t eh) e_c (BK ?_)
         refine An (e_t (Ac rfl eh)) (e_t eh) (Aa (Ae ?_))
         exact ⟨(decide (p2 = (0 : Int))), hr, (Ak rfl (Ac rfl h0)), (Ak rfl (Ac rfl h1)), (Ak rfl (Ac rfl h2)), (Ak rfl (Ac rfl h7)), (Ak rfl (Ac rfl h8)), (Ak rfl (Ac rfl h9)), eh, rfl⟩
       rintro f st' ⟨v14, hr, h0, h1, h2, h7, h8, h9, h67, rfl⟩
       rw [IQ] at hr
       refine AC (e_t h67) hr (fun hr => ?_) (fun hr => ?_)
       rotate_left
       · refine CG ?_
         refine AW ?_
         refine AW ?_
         refine DF ?_
         refine Ae ?_
         exact ⟨v12, hr, h0, h1, h2, h7, h8, rfl⟩
       refine AO (Ae (Al ?_))
       refine AT ?_
       refine Af ?_
       unfold Ac0
       refine Ab (e_t h0) ?_
       refine AB (e_t (em rfl h8)) (by exact rfl) ?_
       refine Ap (e_t eh) ((Am rfl 0).trans rfl) (by exact rfl) ?_
       refine Ab (e_t (Ac rfl (em rfl h9))) ?_
       refine Br (row := TE.row) (AP (e_t (em rfl eh)) Bt) (e_t eh) hr TE.row_eq (fun _ => rfl) (fun v15 hr => ?_)
       refine Dc (e_t eh) (Nat.le_of_ble_eq_true rfl) (by exact rfl) ?_
       obtain ⟨v16, hc_v16, hr⟩ := bind_some hr
       refine AJ (Ar (e_t (Ad rfl (em rfl eh))) AF (Ar (e_t eh) (Bx (Aq f_d (Aq f_d (Aq f_d (Aq f_d (Aq f_d (Aq f_d B3))))))) AM)) ?_
       refine AD5 n v12 v15 hc_v16 ?_
       refine Ab (e_t eh) (Aa ?_)
       refine BB ?_
       refine Ae (Af ?_)
       unfold ZP
       refine Ab (e_t (Ad rfl (Ad rfl h9))) ?_
       refine As (e_t eh) e_c (BU ?_)
       refine Ab (e_t eh) (Aa (Ae ?_))
       exact ⟨m_1, _, Nat.lt_succ_self m_1, Ghost.refl _, v16, (IntKind.wrap .i64 (v13 + (1 : Int))), (by rw [hrec_1]; exact hr), (Ac rfl (em rfl eh)), (Ak rfl (Ac rfl (em rfl h1))), (Ak rfl (Ac rfl (em rfl h2))), (Ak rfl (Ac rfl (em rfl h7))), (Ak rfl (Ac rfl (em rfl h8))), eh, rfl⟩
   refine By (fun f st' => ∃ (v9 : Bool), ER p2 s_RUses n v3 v4 q0 v5 v9 = some r ∧ f 0 = (.d (.sl (List.map rS v3))) ∧ f 1 = (.d (.sl (List.map TS.row p1))) ∧ f 2 = (.d (.int .i64 p2)) ∧ f 7 = (.d (.int .i64 v4)) ∧ f 8 = (.ptr (st.length + 0) 0) ∧ f 54 = (.d (.bool v9)) ∧ st' = st ++ [(.box [(.d (.int .i64 v5.Op)), (.d (.str v5.Name)), (.d (.str v5.Src)), (.d (.int .i64 v5.N)), (.d (.sl (List.map rS v5.Cols))), (.d (.sl (List.map TE.row v5.Exprs))), (.d (.sl (List.map TS.row v5.Body))), (.d (.sl (List.map TS.row v5.Else)))])]) ?_ ?_
   rotate_left
   · rintro f st' ⟨v9, hr, h0, h1, h2, h7, h8, h54, rfl⟩
     rw [ER] at hr
     refine AC (e_t h54) hr (fun hr => ?_) (fun hr => ?_)
     rotate_left
     · refine AO (Ae ?_)
       exact ⟨v3, hr, h0, h1, h2, h7, h8, rfl⟩
     refine Af ?_
     unfold ZY
     refine Ab (e_t h0) ?_
     refine AB (e_t (em rfl h8)) (by exact rfl) ?_
     refine Ap (e_t eh) ((Am rfl 0).trans rfl) (by exact rfl) ?_
     obtain ⟨v10, hc_v10, hr⟩ := bind_some hr
     refine AJ (Ar (e_t (Ac rfl eh)) AF (Ar (e_t eh) AF AM)) ?_
     refine AM5 n v3 v5.Src hc_v10 ?_
     refine Ab (e_t eh) (Aa (Ae ?_))
     exact ⟨v10, hr, eh, (Ad rfl (em rfl h1)), (Ad rfl (em rfl h2)), (Ad rfl (em rfl h7)), (Ad rfl (em rfl h8)), rfl⟩
   refine Af ?_
   unfold Ac9
   refine A1 (fun f st' => ∃ (v6 : Bool), LB p2 s_RUses n v3 v4 q0 v5 v6 = some r ∧ f 0 = (.d (.sl (List.map rS v3))) ∧ f 1 = (.d (.sl (List.map TS.row p1))) ∧ f 2 = (.d (.int .i64 p2)) ∧ f 7 = (.d (.int .i64 v4)) ∧ f 8 = (.ptr (st.length + 0) 0) ∧ f 26 = (.d (.bool v6)) ∧ st' = st ++ [(.box [(.d (.int .i64 v5.Op)), (.d (.str v5.Name)), (.d (.str v5.Src)), (.d (.int .i64 v5.N)), (.d (.sl (List.map rS v5.Cols))), (.d (.sl (List.map TE.row v5.Exprs))), (.d (.sl (List.map TS.row v5.Body))), (.d (.sl (List.map TS.row v5.Else)))])]) ?_ ?_
   · unfold UW
     refine Ab (e_t (Ak rfl (em rfl h2))) ?_
     refine As (e_t eh) e_c (BK ?_)
     refine Ab (e_t eh) ?_
     refine Au eh hr (fun hr => ?_) (fun hr => ?_)
     rotate_left
     · refine Ag eh (Ag (em rfl eh) (Ag (Ac rfl eh) (Ao (e_t (Ac rfl (em rfl eh))) e_c (Aa ?_))))
       exact ⟨false, hr, (Aj rfl (em rfl h0)), (Aj rfl (em rfl h1)), (Aj rfl (em rfl h2)), (Aj rfl (em rfl h7)), (Ad rfl (Ad rfl eh)), eh, rfl⟩
     refine Ai eh ?_
     refine AB (e_t (Ad rfl eh)) (by exact rfl) ?_
     refine Ai (em rfl eh) ?_
     refine Ap (e_t eh) ((Am rfl 0).trans rfl) (by exact rfl) ?_
     refine Ai (Ac rfl eh) ?_
     refine As (e_t eh) e_c (Ei ?_)
     refine An (e_t (Ac rfl (em rfl eh))) (e_t eh) (Aa ?_)
     exact ⟨(decide ((4 : Int) ≤ v5.Op)), hr, (Aj rfl (em rfl h0)), (Aj rfl (em rfl h1)), (Aj rfl (em rfl h2)), (Aj rfl (em rfl h7)), (Ad rfl (Ad rfl eh)), eh, rfl⟩
   rintro f st' ⟨v6, hr, h0, h1, h2, h7, h8, h26, rfl⟩
   rw [LB] at hr
   refine A1 (fun f st' => ∃ (v7 : Bool), Mh p2 s_RUses n v3 v4 q0 v5 v7 = some r ∧ f 0 = (.d (.sl (List.map rS v3))) ∧ f 1 = (.d (.sl (List.map TS.row p1))) ∧ f 2 = (.d (.int .i64 p2)) ∧ f 7 = (.d (.int .i64 v4)) ∧ f 8 = (.ptr (st.length + 0) 0) ∧ f 31 = (.d (.bool v7)) ∧ st' = st ++ [(.box [(.d (.int .i64 v5.Op)), (.d (.str v5.Name)), (.d (.str v5.Src)), (.d (.int .i64 v5.N)), (.d (.sl (List.map rS v5.Cols))), (.d (.sl (List.map TE.row v5.Exprs))), (.d (.sl (List.map TS.row v5.Body))), (.d (.sl (List.map TS.row v5.Else)))])]) ?_ ?_
   · unfold VK
     refine Ab (e_t h26) ?_
     refine Au eh hr (fun hr => ?_) (fun hr => ?_)
     rotate_left
     · refine Ag eh (Ag (em rfl eh) (Ag (Ac rfl eh) (Ao (e_t (Ac rfl (em rfl eh))) e_c (Aa ?_))))
       exact ⟨false, hr, (Ad rfl (Ac rfl h0)), (Ad rfl (Ac rfl h1)), (Ad rfl (Ac rfl h2)), (Ad rfl (Ac rfl h7)), (Ad rfl (Ac rfl h8)), eh, rfl⟩
     refine Ai eh ?_
     refine AB (e_t (Ac rfl h8)) (by exact rfl) ?_
     refine Ai (em rfl eh) ?_
     refine Ap (e_t eh) ((Am rfl 0).trans rfl) (by exact rfl) ?_
     refine Ai (Ac rfl eh) ?_
     refine As (e_t eh) e_c (JI ?_)
     refine An (e_t (Ac rfl (em rfl eh))) (e_t eh) (Aa ?_)
     exact ⟨(decide (v5.Op ≤ (6 : Int))), hr, (Ad rfl (Ac rfl h0)), (Ad rfl (Ac rfl h1)), (Ad rfl (Ac rfl h2)), (Ad rfl (Ac rfl h7)), (Ad rfl (Ac rfl h8)), eh, rfl⟩
   rintro f st' ⟨v7, hr, h0, h1, h2, h7, h8, h31, rfl⟩
   rw [Mh] at hr
   refine A1 (fun f st' => ∃ (v8 : Bool), IM p2 s_RUses n v3 v4 q0 v5 v8 = some r ∧ f 0 = (.d (.sl (List.map rS v3))) ∧ f 1 = (.d (.sl (List.map TS.row p1))) ∧ f 2 = (.d (.int .i64 p2)) ∧ f 7 = (.d (.int .i64 v4)) ∧ f 8 = (.ptr (st.length + 0) 0) ∧ f 45 = (.d (.bool v8)) ∧ st' = st ++ [(.box [(.d (.int .i64 v5.Op)), (.d (.str v5.Name)), (.d (.str v5.Src)), (.d (.int .i64 v5.N)), (.d (.sl (List.map rS v5.Cols))), (.d (.sl (List.map TE.row v5.Exprs))), (.d (.sl (List.map TS.row v5.Body))), (.d (.sl (List.map TS.row v5.Else)))])]) ?_ ?_
   rotate_left
   · rintro f st' ⟨v8, hr, h0, h1, h2, h7, h8, h45, rfl⟩
     rw [IM] at hr
     unfold T4
     refine Ab (e_t h45) ?_
     refine Au eh hr (fun hr => ?_) (fun hr => ?_)
     · refine Ag eh (Ag (em rfl eh) (Ag (Ac rfl eh) ?_))
       refine A4 eh ?_
       refine A4 (em rfl eh) ?_
       refine A4 (Ac rfl eh) ?_
       refine Ag (Ad rfl (Ac rfl eh)) (An (e_t (Ad rfl (Ac rfl (em rfl eh)))) e_c (Aa (Ae ?_)))
       exact ⟨true, hr, (Ak rfl (Ac rfl h0)), (Ak rfl (Ac rfl h1)), (Ak rfl (Ac rfl h2)), (Ak rfl (Ac rfl h7)), (Ak rfl (Ac rfl h8)), eh, rfl⟩
     refine Ai eh (Ab (e_t (Ac rfl h2)) (Ai (em rfl eh) ?_))
     refine As (e_t eh) e_c (BK ?_)
     refine Ai (Ac rfl eh) (Ab (e_t eh) ?_)
     refine Au eh hr (fun hr => ?_) (fun hr => ?_)
     rotate_left
     · refine Ag eh (Ag (em rfl eh) (Ag (Ac rfl eh) (Ai (Ad rfl (Ac rfl (em rfl eh))) (Ao (e_t (Ac rfl (em rfl eh))) e_c (Ao (e_t (Ad rfl (Ad rfl eh))) (e_t eh) ?_)))))
       refine Aa (Ae ?_)
       exact ⟨false, hr, (Ak rfl (Ac rfl (em rfl h0))), (Ak rfl (Ac rfl (em rfl h1))), (Ak rfl (Ac rfl (em rfl h2))), (Ak rfl (Ac rfl (em rfl h7))), (Ak rfl (Ac rfl (em rfl h8))), eh, rfl⟩
     refine Ai eh ?_
     refine AB (e_t (Ad rfl (Ac rfl h8))) (by exact rfl) ?_
     refine Ai (em rfl eh) ?_
     refine Ap (e_t eh) ((Am rfl 0).trans rfl) (by exact rfl) ?_
     refine Ai (Ac rfl eh) ?_
     refine As (e_t eh) e_c (BK ?_)
     refine Ai (Ad rfl (Ac rfl (em rfl eh))) (An (e_t (Ac rfl (em rfl eh))) (e_t eh) (Ao (e_t (Ad rfl (Ad rfl eh))) (e_t eh) (Aa (Ae ?_))))
     exact ⟨(decide (v5.Op = (8 : Int))), hr, (Ak rfl (Ac rfl (em rfl h0))), (Ak rfl (Ac rfl (em rfl h1))), (Ak rfl (Ac rfl (em rfl h2))), (Ak rfl (Ac rfl (em rfl h7))), (Ak rfl (Ac rfl (em rfl h8))), eh, rfl⟩
   unfold UJ
   refine Ab (e_t h31) ?_
   refine Au eh hr (fun hr => ?_) (fun hr => ?_)
   · refine Ag eh (Ag (em rfl eh) (Ag (Ac rfl eh) ?_))
     refine A4 eh ?_
     refine A4 (em rfl eh) ?_
     refine A4 (Ac rfl eh) ?_
     refine Ag (Ad rfl (Ac rfl eh)) (Ag (Ad rfl (Ac rfl (em rfl eh))) ?_)
     refine A4 eh ?_
     refine A4 (em rfl eh) ?_
     refine A4 (Ac rfl eh) ?_
     refine Ag (Ak rfl (Ac rfl (em rfl eh))) (An (e_t (Ak rfl (Ad rfl eh))) e_c (Aa ?_))
     exact ⟨true, hr, (Ak rfl (Ad rfl (Ac rfl (em rfl h0)))), (Ak rfl (Ad rfl (Ac rfl (em rfl h1)))), (Ak rfl (Ad rfl (Ac rfl (em rfl h2)))), (Ak rfl (Ad rfl (Ac rfl (em rfl h7)))), (Ak rfl (Ad rfl (Ac rfl (em rfl h8)))), eh, rfl⟩
   refine Ai eh (Ab (e_t (Ac rfl h2)) (Ai (em rfl eh) ?_))
   refine As (e_t eh) e_c (BK ?_)
   refine Ai (Ac rfl eh) (Ab (e_t eh) ?_)
   refine Au eh hr (fun hr => ?_) (fun hr => ?_)
   rotate_left
   · refine Ag eh (Ag (em rfl eh) (Ag (Ac rfl eh) (Ai (Ad rfl (Ac rfl (em rfl eh))) (Ao (e_t (Ac rfl (em rfl eh))) e_c (Ai (Ad rfl (Ad rfl eh)) ?_)))))
     refine Ab (e_t eh) (Ag eh (Ag (em rfl eh) (Ag (Ac rfl eh) (Ai (Ak rfl (Ad rfl eh)) (Ao (e_t (Ac rfl (em rfl eh))) e_c ?_)))))
     refine Ao (e_t (Ak rfl (Ad rfl (em rfl eh)))) (e_t eh) (Aa ?_)
     exact ⟨false, hr, (Ak rfl (Ad rfl (Ad rfl h0))), (Ak rfl (Ad rfl (Ad rfl h1))), (Ak rfl (Ad rfl (Ad rfl h2))), (Ak rfl (Ad rfl (Ad rfl h7))), (Ak rfl (Ad rfl (Ad rfl h8))), eh, rfl⟩
   refine Ai eh ?_
   refine AB (e_t (Ad rfl (Ac rfl h8))) (by exact rfl) ?_
   refine Ai (em rfl eh) ?_
   refine Ap (e_t eh) ((Am rfl 0).trans rfl) (by exact rfl) ?_
   refine Ai (Ac rfl eh) ?_
   refine As (e_t eh) e_c (Ei ?_)
   refine Ai (Ad rfl (Ac rfl (em rfl eh))) (An (e_t (Ac rfl (em rfl eh))) (e_t eh) (Ai (Ad rfl (Ad rfl eh)) (Ab (e_t eh) ?_)))
   refine Au eh hr (fun hr => ?_) (fun hr => ?_)
   rotate_left
   · refine Ag eh (Ag (em rfl eh) (Ag (Ac rfl eh) (Ai (Ak rfl (Ad rfl (em rfl eh))) (Ao (e_t (Ac rfl (em rfl eh))) e_c (Ao (e_t (Ak rfl (Ad rfl (Ac rfl eh)))) (e_t eh) ?_)))))
     refine Aa ?_
     exact ⟨false, hr, (Aj rfl (em rfl h0)), (Aj rfl (em rfl h1)), (Aj rfl (em rfl h2)), (Aj rfl (em rfl h7)), (Aj rfl (em rfl h8)), eh, rfl⟩
   refine Ai eh ?_
   refine AB (e_t (Ak rfl (Ad rfl h8))) (by exact rfl) ?_
   refine Ai (em rfl eh) ?_
   refine Ap (e_t eh) ((Am rfl 0).trans rfl) (by exact rfl) ?_
   refine Ai (Ac rfl eh) ?_
   refine As (e_t eh) e_c (JI ?_)
   refine Ai (Ak rfl (Ad rfl (em rfl eh))) (An (e_t (Ac rfl (em rfl eh))) (e_t eh) (Ao (e_t (Ak rfl (Ad rfl (Ac rfl eh)))) (e_t eh) (Aa ?_)))
   exact ⟨(decide (v5.Op ≤ (5 : Int))), hr, (Aj rfl (em rfl h0)), (Aj rfl (em rfl h1)), (Aj rfl (em rfl h2)), (Aj rfl (em rfl h7)), (Aj rfl (em rfl h8)), eh, rfl⟩
def CH : Nat → (List ByteArray) → (List TS) → Int → Option (List ByteArray)
 | 0, _, _, _ => none
 | n + 1, p0, p1, p2 => RM (CH n) n p0 p1 p2
theorem Ax3 : ∀ n : Nat, (∀ (p0 : (List ByteArray)) (p1 : (List TS)) (p2 : Int) {r : (List ByteArray)}, CH n p0 p1 p2 = some r → ∀ {st : List Content} {K : PV → List Content → Prop} (h : K (.d (.sl (List.map rS r))) st), Av PR Ks [(.d (.sl (List.map rS p0))), (.d (.sl (List.map TS.row p1))), (.d (.int .i64 p2))] st K)
 | 0 => fun _ _ _ _ hr => (by rw [CH] at hr; cases hr)
 | n + 1 => fun p0 p1 p2 _ hr _ _ h => AQ3 (CH n) n p0 p1 p2 (Ax3 n) (by rw [CH] at hr; exact hr) h
theorem Aq3 (n : Nat) (p0 : (List ByteArray)) (p1 : (List TS)) (p2 : Int) {r : (List ByteArray)} (hr : CH n p0 p1 p2 = some r) {K : PV → List Content → Prop} (h : K (.d (.sl (List.map rS r))) st) : Av PR Ks [(.d (.sl (List.map rS p0))), (.d (.sl (List.map TS.row p1))), (.d (.int .i64 p2))] st K := (Ax3 n) p0 p1 p2 hr h
end Go.Ax
