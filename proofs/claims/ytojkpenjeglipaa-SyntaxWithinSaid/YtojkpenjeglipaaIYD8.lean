import Derived.Test.YtojkpenjeglipaaIYT
import Derived.Test.YtojkpenjeglipaaICVX
import Derived.Test.YtojkpenjeglipaaICPrim
import Derived.Test.YtojkpenjeglipaaIYD5
set_option linter.unusedVariables false
set_option linter.unusedSimpArgs false
namespace Go.Ax
attribute [local irreducible] BL ER FD Bf CF Fz B6 KZ HX upd ev u0 Dt frz A6 EB mmD bnd BV Ft Do CO GU Ht G2 cutV I1 Cv
variable {st : List Content}
def HU (p1 : (List ByteArray)) (p2 : (List ByteArray)) (p3 : TE) (s_Suses_expr : (List ByteArray) → (List ByteArray) → (List ByteArray) → TE → Option (List ByteArray)) (q0 : (List ByteArray) → Int → Option (List ByteArray)) (v6 : (List ByteArray)) (v7 : Int) : Option (List ByteArray) :=
 (bif (decide (v7 < (p3.Args.length : Int))) then ((Dh p3.Args v7).bind fun v8 => ((s_Suses_expr v6 p1 p2 v8).bind fun v9 => q0 v9 (IntKind.wrap .i64 (v7 + (1 : Int))))) else some v6)
def C4 (p1 : (List ByteArray)) (p2 : (List ByteArray)) (p3 : TE) (s_Suses_expr : (List ByteArray) → (List ByteArray) → (List ByteArray) → TE → Option (List ByteArray)) : Nat → (List ByteArray) → Int → Option (List ByteArray)
 | 0, _, _ => none
 | m + 1, v6, v7 => HU p1 p2 p3 s_Suses_expr (C4 p1 p2 p3 s_Suses_expr m) v6 v7
def d_Suses_expr_j0 (p1 : (List ByteArray)) (p2 : (List ByteArray)) (p3 : TE) (s_Suses_expr : (List ByteArray) → (List ByteArray) → (List ByteArray) → TE → Option (List ByteArray)) (n : Nat) (v5 : (List ByteArray)) : Option (List ByteArray) :=
 (C4 p1 p2 p3 s_Suses_expr n v5 (0 : Int))
def Jb (s_Suses_expr : (List ByteArray) → (List ByteArray) → (List ByteArray) → TE → Option (List ByteArray)) (n : Nat) (p0 : (List ByteArray)) (p1 : (List ByteArray)) (p2 : (List ByteArray)) (p3 : TE) : Option (List ByteArray) :=
 (bif (OG p3.Op).2 then ((Xl p0 p3.Src).bind fun v4 => (d_Suses_expr_j0 p1 p2 p3 s_Suses_expr n v4)) else (d_Suses_expr_j0 p1 p2 p3 s_Suses_expr n p0))
set_option maxRecDepth 100000 in
set_option maxHeartbeats 4000000 in
theorem ZS (s_Suses_expr : (List ByteArray) → (List ByteArray) → (List ByteArray) → TE → Option (List ByteArray)) (n : Nat) (p0 : (List ByteArray)) (p1 : (List ByteArray)) (p2 : (List ByteArray)) (p3 : TE) (H_s_Suses_expr : ∀ (p0 : (List ByteArray)) (p1 : (List ByteArray)) (p2 : (List ByteArray)) (p3 : TE) {r : (List ByteArray)}, s_Suses_expr p0 p1 p2 p3 = some r → ∀ {st : List Content} {x0 : Nat} {x1 : Nat} {x2 : Nat} (hx_x0 : st[x0]? = some (.map AD AU p0)) (hx_x1 : st[x1]? = some (.map AD AU p1)) (hx_x2 : st[x2]? = some (.map AD AU p2)) (hne_x0_x1 : (x0 == x1) = false) (hne_x0_x2 : (x0 == x2) = false) {st' : List Content} (hst : (List.set st x0 (.map AD AU r)) = st') {K : PV → List Content → Prop} (h : K (.tup []) st'), Aw PR GO [(.agg [(.map x0), (.map x1), (.map x2)]), (.agg [(.d (.int .i64 p3.Op)), (.d (.int .i64 p3.N)), (.d (.str p3.S)), (.d (.str p3.Name)), (.d (.str p3.Src)), (.d (.sl (List.map TE.row p3.Args)))])] st K) {r : (List ByteArray)} (hr : Jb s_Suses_expr n p0 p1 p2 p3 = some r) {x0 : Nat} {x1 : Nat} {x2 : Nat} (hx_x0 : st[x0]? = some (.map AD AU p0)) (hx_x1 : st[x1]? = some (.map AD AU p1)) (hx_x2 : st[x2]? = some (.map AD AU p2)) (hne_x0_x1 : (x0 == x1) = false) (hne_x0_x2 : (x0 == x2) = false) {st' : List Content} (hst : (List.set st x0 (.map AD AU r)) = st') {K : PV → List Content → Prop} (h : K (.tup []) st') : Aw PR GO [(.agg [(.map x0), (.map x1), (.map x2)]), (.agg [(.d (.int .i64 p3.Op)), (.d (.int .i64 p3.N)), (.d (.str p3.S)), (.d (.str p3.Name)), (.d (.str p3.Src)), (.d (.sl (List.map TE.row p3.Args)))])] st K := by
 subst hst
 refine Aw.of Ag9 (Nat.le_of_ble_eq_true rfl) fun hwf => ?_
 rw [DX]
 refine AQ ?_
 unfold SE
 rw [Jb] at hr
 refine Al (Af ?_)
 unfold Pz
 refine Gw (k := 0) rfl rfl (e_t eh) Bg (by exact rfl) ?_
 refine Gw (k := 1) rfl rfl (e_t (Ac rfl eh)) Bg (by exact rfl) ?_
 refine Aa (Ae ?_)
 refine BD (fun f st' => ∃ (v5 : (List ByteArray)), d_Suses_expr_j0 p1 p2 p3 s_Suses_expr n v5 = some r ∧ f 2 = (.ptr (st.length + 0) 0) ∧ f 3 = (.ptr (st.length + 1) 0) ∧ st' = (List.set st x0 (.map AD AU v5)) ++ [(.box [(.map x0), (.map x1), (.map x2)]), (.box [(.d (.int .i64 p3.Op)), (.d (.int .i64 p3.N)), (.d (.str p3.S)), (.d (.str p3.Name)), (.d (.str p3.Src)), (.d (.sl (List.map TE.row p3.Args)))])]) ?_ ?_
 · refine Al (Af ?_)
   unfold Pc
   refine AB (e_t eh) (by exact rfl) ?_
   refine Ap (e_t eh) ((Am rfl 1).trans rfl) (by exact rfl) ?_
   refine AP (Ay (e_t eh) AG AR) ?_
   refine Ag0 p3.Op rfl ?_
   refine Ab (e_t eh) ?_
   refine GZ (e_t eh) (by exact rfl) ?_
   refine GZ (e_t (em rfl eh)) (by exact rfl) ?_
   refine Ab (e_t (em rfl eh)) (Ab (e_t (em rfl eh)) (Aa (Ae (Al (Af ?_)))))
   unfold OZ
   refine Ab (e_t eh) (Aa (Ae ?_))
   refine AC (e_t eh) hr (fun hr => ?_) (fun hr => ?_)
   rotate_left
   · refine AN (Ae ?_)
     exact ⟨p0, hr, (Ak rfl (Ac rfl eh)), (Ak rfl (em rfl eh)), (congrArg (· ++ _) ((HB hx_x0).symm.trans rfl))⟩
   refine Af ?_
   unfold Pn
   refine AB (e_t (Ak rfl (Ac rfl eh))) (by exact rfl) ?_
   refine Ap (e_t eh) ((Am rfl 0).trans rfl) (by exact rfl) ?_
   refine AB (e_t (Ak rfl (Ac rfl (em rfl eh)))) (by exact rfl) ?_
   refine Ap (e_t eh) ((Am rfl 1).trans rfl) (by exact rfl) ?_
   refine Ru (e_t (Ac rfl eh)) (e_t eh) e_c (GE hx_x0) (fun _ => ((Np hx_x0).trans (congrArg (· ++ _) rfl))) hr (fun v4 hr => ?_)
   refine Aa (Ae ?_)
   exact ⟨v4, hr, (Ak rfl (Ad rfl (Ac rfl eh))), (Ak rfl (Ad rfl (em rfl eh))), rfl⟩
 rintro f st' ⟨v5, hr, h2, h3, rfl⟩
 rw [d_Suses_expr_j0] at hr
 refine Al (Af ?_)
 unfold O4
 refine AB (e_t h3) (by exact rfl) ?_
 refine Ap (e_t eh) ((Am (AW rfl) 1).trans rfl) (by exact rfl) ?_
 refine Bh (row := TE.row) (AL (e_t eh) Bq) ?_
 refine Ab e_c (Aa (Ae ?_))
 refine AX ?_
 refine Ca (fun m f st' => ∃ (v6 : (List ByteArray)), ∃ (v7 : Int), C4 p1 p2 p3 s_Suses_expr m v6 v7 = some r ∧ f 2 = (.ptr (st.length + 0) 0) ∧ f 20 = (.d (.sl (List.map TE.row p3.Args))) ∧ f 21 = (.d (.int .i64 (p3.Args.length : Int))) ∧ f 22 = (.d (.int .i64 v7)) ∧ st' = (List.set st x0 (.map AD AU v6)) ++ [(.box [(.map x0), (.map x1), (.map x2)]), (.box [(.d (.int .i64 p3.Op)), (.d (.int .i64 p3.N)), (.d (.str p3.S)), (.d (.str p3.Name)), (.d (.str p3.Src)), (.d (.sl (List.map TE.row p3.Args)))])]) n (Ghost.refl _) ⟨v5, (0 : Int), hr, (Ad rfl h2), (Ac rfl eh), (em rfl eh), eh, rfl⟩ ?_
 rintro m f st' ⟨v6, v7, hr, h2, h20, h21, h22, rfl⟩
 cases m with
 | zero => cases hr
 | succ m_0 =>
   rw [C4] at hr
   generalize hrec_0 : C4 p1 p2 p3 s_Suses_expr m_0 = q0 at hr
   rw [HU] at hr
   unfold Pg
   refine Al (Af ?_)
   unfold Pm
   refine Ar (e_t h22) (e_t h21) (CL ?_)
   refine Aa (Ae (Al ?_))
   refine AC (e_t eh) hr (fun hr => ?_) (fun hr => ?_)
   rotate_left
   · refine CP ?_
     refine A0 ?_
     refine A0 ?_
     refine Ea ?_
     cases hr
     exact At6 AH AK2 (Af8 (WF.setMap hwf) (AW rfl)) h
   refine AN (Ae (Al ?_))
   refine AX ?_
   refine Al (Af ?_)
   unfold Po
   refine Bt (row := TE.row) (AL (e_t (em rfl h20)) Bq) (e_t (em rfl h22)) hr TE.row_eq (fun _ => rfl) (fun v8 hr => ?_)
   refine DH (e_t eh) (Nat.le_of_ble_eq_true rfl) (by exact rfl) ?_
   refine Ci (k := 2) (AW rfl) rfl ?_
   refine Bl (e_t eh) ((Am (AW rfl) 2).trans rfl) (e_t (em rfl eh)) Bg rfl (Nat.le_of_ble_eq_true rfl) (by exact rfl) (cells' := [(.d (.int .i64 v8.Op)), (.d (.int .i64 v8.N)), (.d (.str v8.S)), (.d (.str v8.Name)), (.d (.str v8.Src)), (.d (.sl (List.map TE.row v8.Args)))]) (by exact rfl) (Bk (AW rfl) _ _) ?_
   refine Aa (Ae (Af ?_))
   unfold Px
   refine BF (e_t (Ad rfl h2)) ((Am (AW rfl) 0).trans rfl) (Nat.le_of_ble_eq_true rfl) (by exact rfl) ?_
   refine BF (e_t (em rfl eh)) ((Am (AW rfl) 2).trans rfl) (Nat.le_of_ble_eq_true rfl) (by exact rfl) ?_
   obtain ⟨v9, hc_v9, hr⟩ := bind_some hr
   refine AP (Ay (e_t (em rfl eh)) (BP (Aq PA (Aq PA (Aq PA Cw)))) (Ay (e_t eh) (BP (Aq f_d (Aq f_d (Aq f_d (Aq f_d (Aq f_d (Aq f_d Cw))))))) AR)) ?_
   refine H_s_Suses_expr v6 p1 p2 v8 hc_v9 (GE (CT hx_x0)) (GE (Bd hx_x1 hne_x0_x1)) (GE (Bd hx_x2 hne_x0_x2)) hne_x0_x1 hne_x0_x2 ((Np (CT hx_x0)).trans (congrArg (· ++ _) Nn)) ?_
   refine Aa ?_
   refine BA ?_
   refine Ae (Af ?_)
   unfold PG
   refine Ar (e_t (Ad rfl (Ac rfl (em rfl h22)))) e_c (BX ?_)
   refine Ab (e_t eh) (Aa (Ae ?_))
   exact ⟨m_0, _, Nat.lt_succ_self m_0, Ghost.cut _ (st.length + 2) (Nat.le_add_right _ _), v9, (IntKind.wrap .i64 (v7 + (1 : Int))), (by rw [hrec_0]; exact hr), ((congrArg (cutV _) (Ak rfl (em rfl h2))).trans (by simp [cutV, AJ])), ((congrArg (cutV _) (Ak rfl (em rfl h20))).trans (v_d)), ((congrArg (cutV _) (Ak rfl (em rfl h21))).trans (v_d)), ((congrArg (cutV _) eh).trans (v_d)), (EO (l0 := [(.box [(.map x0), (.map x1), (.map x2)]), (.box [(.d (.int .i64 p3.Op)), (.d (.int .i64 p3.N)), (.d (.str p3.S)), (.d (.str p3.Name)), (.d (.str p3.Src)), (.d (.sl (List.map TE.row p3.Args)))])]) (l1 := _) (WF.setMap hwf) (AW rfl) rfl (by simp [Ka, cutV, AJ, AJ.belowL, OS hx_x0, OS hx_x1, OS hx_x2]))⟩
def BQ : Nat → (List ByteArray) → (List ByteArray) → (List ByteArray) → TE → Option (List ByteArray)
 | 0, _, _, _, _ => none
 | n + 1, p0, p1, p2, p3 => Jb (BQ n) n p0 p1 p2 p3
theorem R0 : ∀ n : Nat, (∀ (p0 : (List ByteArray)) (p1 : (List ByteArray)) (p2 : (List ByteArray)) (p3 : TE) {r : (List ByteArray)}, BQ n p0 p1 p2 p3 = some r → ∀ {st : List Content} {x0 : Nat} {x1 : Nat} {x2 : Nat} (hx_x0 : st[x0]? = some (.map AD AU p0)) (hx_x1 : st[x1]? = some (.map AD AU p1)) (hx_x2 : st[x2]? = some (.map AD AU p2)) (hne_x0_x1 : (x0 == x1) = false) (hne_x0_x2 : (x0 == x2) = false) {st' : List Content} (hst : (List.set st x0 (.map AD AU r)) = st') {K : PV → List Content → Prop} (h : K (.tup []) st'), Aw PR GO [(.agg [(.map x0), (.map x1), (.map x2)]), (.agg [(.d (.int .i64 p3.Op)), (.d (.int .i64 p3.N)), (.d (.str p3.S)), (.d (.str p3.Name)), (.d (.str p3.Src)), (.d (.sl (List.map TE.row p3.Args)))])] st K)
 | 0 => fun _ _ _ _ _ hr => (by rw [BQ] at hr; cases hr)
 | n + 1 => fun p0 p1 p2 p3 _ hr _ _ _ _ hx_x0 hx_x1 hx_x2 hne_x0_x1 hne_x0_x2 _ hst _ h => ZS (BQ n) n p0 p1 p2 p3 (R0 n) (by rw [BQ] at hr; exact hr) hx_x0 hx_x1 hx_x2 hne_x0_x1 hne_x0_x2 hst h
theorem Aj4 (n : Nat) (p0 : (List ByteArray)) (p1 : (List ByteArray)) (p2 : (List ByteArray)) (p3 : TE) {r : (List ByteArray)} (hr : BQ n p0 p1 p2 p3 = some r) {x0 : Nat} {x1 : Nat} {x2 : Nat} (hx_x0 : st[x0]? = some (.map AD AU p0)) (hx_x1 : st[x1]? = some (.map AD AU p1)) (hx_x2 : st[x2]? = some (.map AD AU p2)) (hne_x0_x1 : (x0 == x1) = false) (hne_x0_x2 : (x0 == x2) = false) {st' : List Content} (hst : (List.set st x0 (.map AD AU r)) = st') {K : PV → List Content → Prop} (h : K (.tup []) st') : Aw PR GO [(.agg [(.map x0), (.map x1), (.map x2)]), (.agg [(.d (.int .i64 p3.Op)), (.d (.int .i64 p3.N)), (.d (.str p3.S)), (.d (.str p3.Name)), (.d (.str p3.Src)), (.d (.sl (List.map TE.row p3.Args)))])] st K := (R0 n) p0 p1 p2 p3 hr hx_x0 hx_x1 hx_x2 hne_x0_x1 hne_x0_x2 hst h
set_option maxRecDepth 100000 in
theorem I8 (p0 : List TS) {r : List TS} (hr : XU 144 p0 = some r) {st : List Content} : Aw PR DA [.d (.sl (List.map TS.row p0))] st (fun p st' => p = .own st.length 1 ∧ st' = st ++ [.row AO 1 (List.map TS.row r)]) := by
 have hb : p0.length * 144 ≤ 140737488355328 ∧ r = p0 := by
   unfold XU at hr; split at hr
   · rename_i h; exact ⟨h, by cases hr; rfl⟩
   · cases hr
 obtain ⟨hb, rfl⟩ := hb
 have hz : ∀ row, row ∈ List.map TS.row r → row.length = 8 := JH TS.row_eq
 refine Aw.of_ownG I9 (Nat.le_of_ble_eq_true rfl) fun hwf => ?_
 rw [Cm]
 refine AQ ?_
 unfold FV
 refine Al (Af ?_)
 unfold EZ
 refine Ab e_c (Aa (Ae (Al (Al (Af ?_)))))
 unfold E2
 refine Ab (e_t (em rfl eh)) ?_
 refine AM6 (AL (e_t eh) Bq) (fun h0 => ?_) ?_
 · refine Aa (Ae ?_)
   refine Dz (e_t eh) ?_
   refine Al (Af ?_)
   unfold E1
   refine Ab e_c (Aa (Ae (AI (AA ?_))))
   have hl : (st ++ [] : List Content).length = st.length := by simp
   refine ⟨_, Ghost.adoptV _ 2 [] AO 8 1 eh rfl (by simp), [.own st.length 1], st.length + 1, AF (by simp only [hl]; exact eh) AH, by omega, ?_, ?_⟩
   · simp [G2, cutV, AJ]
   · rw [h0]; simp only [List.append_nil]; exact Xu (hwf.push (fun cells h => by cases h)) (by simp)
 · refine Aa (Ae ?_)
   refine EP (e_t eh) ?_
   refine AN (Ae (Al (Af ?_)))
   unfold Fi
   refine CX (rows := []) DV ?_
   refine Ab (e_t (Ad rfl eh)) ?_
   refine AF4 (k := 0) rfl rfl (AL (e_t eh) Bq) hz (e_t (em rfl eh)) (by simp) (by simpa using hb) ?_
   refine Ab (e_t eh) (Aa (Ae (AI ?_)))
   refine ⟨_, Ghost.refl _, [.own (st.length + 0) 1], st.length + 1, AF eh AH, by omega, ?_, ?_⟩
   · simp [G2, cutV, AJ]
   · simp only [List.nil_append]; exact Xu (hwf.push (fun cells h => by cases h)) (by simp)
end Go.Ax
