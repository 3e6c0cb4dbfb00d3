import Derived.Test.YtojkpenjeglipaaGreatTWT
import Derived.Test.YtojkpenjeglipaaGreatTCVX
import Derived.Test.YtojkpenjeglipaaGreatTCPrim
import Derived.Test.YtojkpenjeglipaaGreatTWD7
set_option linter.unusedVariables false
set_option maxRecDepth 100000
set_option maxHeartbeats 4000000
namespace Go.Ax
attribute [local irreducible] BH FA F2 Bf DM Hp Cq V4 Lz upd ev u0 Dh frz A4 EO mmD bnd Ch Gk DU C2 Ie JH FZ cutV NL CO
variable {st : List Content}
def Fy (p1 : Int) (fn2 : TE → Int → Option T_Ssize) (v2 : Int) (v3 : Int) (v4 : Int) (q0 : Int → Int → Int → Option T_Ssize) (v5 : TE) (v6 : Bool) : Option T_Ssize :=
 (bif v6 then some (⟨(1000 : Int), (1000 : Int)⟩ : T_Ssize) else ((fn2 v5 p1).bind fun v7 => q0 ((A0 (⟨v2, v3⟩ : T_Ssize) v7).nodes) ((A0 (⟨v2, v3⟩ : T_Ssize) v7).depth) (IntKind.wrap .i64 (v4 + (1 : Int)))))
def Gs (p0 : (List TE)) (p1 : Int) (fn2 : TE → Int → Option T_Ssize) (q0 : Int → Int → Int → Option T_Ssize) (v2 : Int) (v3 : Int) (v4 : Int) : Option T_Ssize :=
 (bif (decide (v4 < (p0.length : Int))) then ((Dw p0 v4).bind fun v5 => (bif (Ca (⟨v2, v3⟩ : T_Ssize)) then (Fy p1 fn2 v2 v3 v4 q0 v5 true) else (Fy p1 fn2 v2 v3 v4 q0 v5 (decide ((1000 : Int) ≤ p1))))) else some (⟨v2, v3⟩ : T_Ssize))
def B1 (p0 : (List TE)) (p1 : Int) (fn2 : TE → Int → Option T_Ssize) : Nat → Int → Int → Int → Option T_Ssize
 | 0, _, _, _ => none
 | m + 1, v2, v3, v4 => Gs p0 p1 fn2 (B1 p0 p1 fn2 m) v2 v3 v4
def FM (n : Nat) (p0 : (List TE)) (p1 : Int) (fn2 : TE → Int → Option T_Ssize) : Option T_Ssize :=
 (B1 p0 p1 fn2 n (0 : Int) (0 : Int) (0 : Int))
theorem YX (n : Nat) (p0 : (List TE)) (p1 : Int) (fn2 : TE → Int → Option T_Ssize) {g_fn2 : FuncId} {p_fn2 q_fn2 : List PV} (H_fn2 : ∀ (a0 : TE) (a1 : Int) {r : T_Ssize}, fn2 a0 a1 = some r → ∀ {st : List Content} {K : PV → List Content → Prop}, K (.agg [(.d (.int .i64 r.nodes)), (.d (.int .i64 r.depth))]) st → Aw PR g_fn2 (p_fn2 ++ [(.agg [(.d (.int .i64 a0.Op)), (.d (.int .i64 a0.N)), (.d (.str a0.S)), (.d (.str a0.Name)), (.d (.str a0.Src)), (.d (.sl (List.map TE.row a0.Args)))]), (.d (.int .i64 a1))] ++ q_fn2) st K) (B_fn2 : ∀ n, (AP.belowL n p_fn2 && AP.belowL n q_fn2) = true) {r : T_Ssize} (hr : FM n p0 p1 fn2 = some r) {K : PV → List Content → Prop} (h : K (.agg [(.d (.int .i64 r.nodes)), (.d (.int .i64 r.depth))]) st) : Aw PR Hn [(.d (.sl (List.map TE.row p0))), (.d (.int .i64 p1)), (.fn g_fn2 p_fn2 q_fn2)] st K := by
 refine Aw.of Y2 (Nat.le_of_ble_eq_true rfl) fun hwf => ?_
 rw [Bw4]
 refine AS ?_
 unfold NJ
 rw [FM] at hr
 refine Al (Af ?_)
 unfold SU
 refine Dv (k := 0) rfl rfl ?_
 refine Aa (Ae (Al (Af ?_)))
 unfold S1
 refine Dv (k := 1) rfl rfl ?_
 refine Aa (Ae (Al (Al (Af ?_))))
 unfold Sg
 refine Ab (e_t (Ac rfl eh)) ?_
 refine Bc (row := TE.row) (AN (e_t eh) Bo) ?_
 refine Ab e_c (Aa (Ae ?_))
 refine A3 ?_
 refine Cy (fun m f st' => ∃ (v2 : Int), ∃ (v3 : Int), ∃ (v4 : Int), B1 p0 p1 fn2 m v2 v3 v4 = some r ∧ f 1 = (.d (.int .i64 p1)) ∧ f 2 = (.fn g_fn2 p_fn2 q_fn2) ∧ f 6 = (.ptr (st.length + 0) 0) ∧ f 7 = (.ptr (st.length + 1) 0) ∧ f 10 = (.d (.sl (List.map TE.row p0))) ∧ f 11 = (.d (.int .i64 (p0.length : Int))) ∧ f 12 = (.d (.int .i64 v4)) ∧ st' = st ++ [(.box [(.d (.int .i64 (0 : Int))), (.d (.int .i64 (0 : Int)))]), (.box [(.d (.int .i64 v2)), (.d (.int .i64 v3))])]) n (Ghost.refl _) ⟨(0 : Int), (0 : Int), (0 : Int), hr, (Ad rfl (Ac rfl eh)), (Ad rfl (Ac rfl (em rfl eh))), (Ad rfl eh), (Ac rfl (em rfl eh)), (Ac rfl eh), (em rfl eh), eh, rfl⟩ ?_
 rintro m f st' ⟨v2, v3, v4, hr, h1, h2, h6, h7, h10, h11, h12, rfl⟩
 cases m with
 | zero => cases hr
 | succ m_0 =>
   rw [B1] at hr
   generalize hrec_0 : B1 p0 p1 fn2 m_0 = q0 at hr
   rw [Gs] at hr
   unfold Si
   refine Al (Af ?_)
   unfold Sr
   refine Ap (e_t h12) (e_t h11) (Da ?_)
   refine Aa (Ae (Al ?_))
   refine AB (e_t eh) hr (fun hr => ?_) (fun hr => ?_)
   rotate_left
   · refine Dj ?_
     refine A8 ?_
     refine A8 ?_
     refine Fo ?_
     refine Ae (Al (Af ?_))
     unfold Qx
     refine Cn (e_t (em rfl h7)) (gx 1 rfl) (Nat.le_of_ble_eq_true rfl) (by rfl) ?_
     refine BB (e_t (Ac rfl h6)) (gx 0 rfl) (e_t eh) Bi rfl (Nat.le_of_ble_eq_true rfl) (by rfl) (cells' := [(.d (.int .i64 v2)), (.d (.int .i64 v3))]) (by rfl) (BD rfl _ _) ?_
     refine Aa (Ae (AH ?_))
     cases hr
     exact A5 (Iz (Ac rfl h6) (gx 0 rfl) (Nat.le_of_ble_eq_true rfl) (by rfl) AG) (AK (Cw (Aq f_d (Aq f_d Dg))) (AY4 rfl)) (As hwf) h
   refine AM (Ae (Al ?_))
   refine A3 ?_
   refine Al (Af ?_)
   unfold Tv
   refine Bt (row := TE.row) (AN (e_t (em rfl h10)) Bo) (e_t (em rfl h12)) hr TE.row_eq (fun _ => rfl) (fun v5 hr => ?_)
   refine Ft (e_t eh) (Nat.le_of_ble_eq_true rfl) (by rfl) ?_
   refine Dv (k := 2) rfl rfl ?_
   refine BB (e_t eh) (gx 2 rfl) (e_t (em rfl eh)) Bi rfl (Nat.le_of_ble_eq_true rfl) (by rfl) (cells' := [(.d (.int .i64 v5.Op)), (.d (.int .i64 v5.N)), (.d (.str v5.S)), (.d (.str v5.Name)), (.d (.str v5.Src)), (.d (.sl (List.map TE.row v5.Args)))]) (by rfl) (BD rfl _ _) ?_
   refine Aa (Ae (Al ?_))
   refine BL (fun f st' => ∃ (v6 : Bool), Fy p1 fn2 v2 v3 v4 q0 v5 v6 = some r ∧ f 1 = (.d (.int .i64 p1)) ∧ f 2 = (.fn g_fn2 p_fn2 q_fn2) ∧ f 6 = (.ptr (st.length + 0) 0) ∧ f 7 = (.ptr (st.length + 1) 0) ∧ f 9 = (.ptr (st.length + 2) 0) ∧ f 10 = (.d (.sl (List.map TE.row p0))) ∧ f 11 = (.d (.int .i64 (p0.length : Int))) ∧ f 12 = (.d (.int .i64 v4)) ∧ f 20 = (.d (.bool v6)) ∧ st' = st ++ [(.box [(.d (.int .i64 (0 : Int))), (.d (.int .i64 (0 : Int)))]), (.box [(.d (.int .i64 v2)), (.d (.int .i64 v3))]), (.box [(.d (.int .i64 v5.Op)), (.d (.int .i64 v5.N)), (.d (.str v5.S)), (.d (.str v5.Name)), (.d (.str v5.Src)), (.d (.sl (List.map TE.row v5.Args)))])]) ?_ ?_
   · refine Af ?_
     unfold SD
     refine AY (Az (e_t (Ad rfl h7)) At2 A1) ?_
     refine Aw7 (⟨v2, v3⟩ : T_Ssize) rfl (gx 1 rfl) ?_
     refine Ab (e_t eh) ?_
     refine Ar eh hr (fun hr => ?_) (fun hr => ?_)
     · refine Ah eh (Ah (em rfl eh) (Am (e_t (Ac rfl eh)) e_c (Aa (Ae ?_))))
       exact ⟨true, hr, (Ak rfl (Ac rfl h1)), (Ak rfl (Ac rfl h2)), (Ak rfl (Ac rfl h6)), (Ak rfl (Ac rfl h7)), (Ad rfl (Ac rfl eh)), (Ak rfl (Ac rfl h10)), (Ak rfl (Ac rfl h11)), (Ak rfl (Ac rfl h12)), eh, rfl⟩
     refine Aj eh (Ab (e_t (Ad rfl (Ac rfl (em rfl h1)))) (Aj (em rfl eh) ?_))
     refine Ap (e_t eh) e_c (E5 ?_)
     refine An (e_t (Ac rfl eh)) (e_t eh) (Aa (Ae ?_))
     exact ⟨(decide ((1000 : Int) ≤ p1)), hr, (Ak rfl (Ac rfl h1)), (Ak rfl (Ac rfl h2)), (Ak rfl (Ac rfl h6)), (Ak rfl (Ac rfl h7)), (Ad rfl (Ac rfl eh)), (Ak rfl (Ac rfl h10)), (Ak rfl (Ac rfl h11)), (Ak rfl (Ac rfl h12)), eh, rfl⟩
   rintro f st' ⟨v6, hr, h1, h2, h6, h7, h9, h10, h11, h12, h20, rfl⟩
   rw [Fy] at hr
   refine AB (e_t h20) hr (fun hr => ?_) (fun hr => ?_)
   · refine Al (Af ?_)
     unfold Ti
     refine T2 (cs := [(.d (.int .i64 (1000 : Int))), (.d (.int .i64 (1000 : Int)))]) (DZ e_c A2 rfl (Nat.le_of_ble_eq_true rfl) (by rfl) (DZ e_c A2 rfl (Nat.le_of_ble_eq_true rfl) (by rfl) Ae4)) (DX e_c A2 (by rfl) (DX e_c A2 (by rfl) Ab6)) ?_
     refine BB (e_t (em rfl h6)) (gx 0 rfl) (e_t eh) Bi rfl (Nat.le_of_ble_eq_true rfl) (by rfl) (cells' := [(.d (.int .i64 (1000 : Int))), (.d (.int .i64 (1000 : Int)))]) (by rfl) (BD rfl _ _) ?_
     refine Aa (Ae (AH (Ay ?_)))
     refine Bw ?_
     refine Ay (Ay ?_)
     refine Bw ?_
     refine Ay ?_
     cases hr
     exact A5 (Iz (em rfl h6) (gx 0 rfl) (Nat.le_of_ble_eq_true rfl) (by rfl) AG) (AK (Cw (Aq f_d (Aq f_d Dg))) (AY4 rfl)) (As hwf) h
   refine AM (Ae (Af ?_))
   unfold Su
   refine Ab (e_t h2) ?_
   refine Cn (e_t (em rfl h9)) (gx 2 rfl) (Nat.le_of_ble_eq_true rfl) (by rfl) ?_
   refine Ab (e_t (Ac rfl h1)) ?_
   obtain ⟨v7, hc_v7, hr⟩ := bind_some hr
   refine BG3 (e_t (Ac rfl eh)) (Az (e_t (em rfl eh)) (Cw (Aq f_d (Aq f_d (Aq f_d (Aq f_d (Aq f_d (Aq f_d Dg))))))) (Az (e_t eh) AF A1)) rfl ?_
   refine H_fn2 v5 p1 hc_v7 ?_
   refine AY (Az (e_t (Ad rfl h7)) At2 (Az (e_t eh) (Cw (Aq f_d (Aq f_d Dg))) A1)) ?_
   refine TQ (⟨v2, v3⟩ : T_Ssize) v7 rfl (gx 1 rfl) (BD rfl _ _) ?_
   refine Aa ?_
   refine BQ ?_
   refine Ae (Af ?_)
   unfold Tj
   refine Ap (e_t (Ad rfl (em rfl h12))) e_c (B4 ?_)
   refine Ab (e_t eh) (Aa (Ae ?_))
   exact ⟨m_0, _, Nat.lt_succ_self m_0, Ghost.cut _ (st.length + 2) (Nat.le_add_right _ _), (A0 (⟨v2, v3⟩ : T_Ssize) v7).nodes, (A0 (⟨v2, v3⟩ : T_Ssize) v7).depth, (IntKind.wrap .i64 (v4 + (1 : Int))), (by rw [hrec_0]; exact hr), ((congrArg (cutV _) (Ad rfl (Ac rfl (em rfl h1)))).trans (v_d)), ((congrArg (cutV _) (Ad rfl (Ac rfl (em rfl h2)))).trans (BO0 (B_fn2 _))), ((congrArg (cutV _) (Ad rfl (Ac rfl (em rfl h6)))).trans (by simp [cutV, AP])), ((congrArg (cutV _) (Ad rfl (Ac rfl (em rfl h7)))).trans (by simp [cutV, AP])), ((congrArg (cutV _) (Ad rfl (Ac rfl (em rfl h10)))).trans (v_d)), ((congrArg (cutV _) (Ad rfl (Ac rfl (em rfl h11)))).trans (v_d)), ((congrArg (cutV _) eh).trans (v_d)), (H1 (l0 := [(.box [(.d (.int .i64 (0 : Int))), (.d (.int .i64 (0 : Int)))]), (.box [(.d (.int .i64 ((A0 (⟨v2, v3⟩ : T_Ssize) v7).nodes))), (.d (.int .i64 ((A0 (⟨v2, v3⟩ : T_Ssize) v7).depth)))])]) (l1 := _) hwf rfl rfl rfl)⟩
def Lf (p0 : T_Ssize) : T_Ssize :=
 (⟨(min (IntKind.wrap .i64 (p0.nodes + (1 : Int))) (1000 : Int)), (min (IntKind.wrap .i64 (p0.depth + (1 : Int))) (1000 : Int))⟩ : T_Ssize)
theorem BP6 (p0 : T_Ssize) {r : T_Ssize} (hr : Lf p0 = r) {K : PV → List Content → Prop} (h : K (.agg [(.d (.int .i64 r.nodes)), (.d (.int .i64 r.depth))]) st) : Aw PR AL2 [(.agg [(.d (.int .i64 p0.nodes)), (.d (.int .i64 p0.depth))])] st K := by
 refine Aw.of BO3 (Nat.le_of_ble_eq_true rfl) fun hwf => ?_
 rw [CE]
 refine AS ?_
 unfold Bv7
 rw [Lf] at hr
 refine Al (Af ?_)
 unfold Bg8
 refine GV (k := 0) rfl rfl (e_t eh) Bi (by rfl) ?_
 refine Dv (k := 1) rfl rfl ?_
 refine Aa (Ae (Al (Af ?_)))
 unfold Be4
 refine AA (e_t (em rfl eh)) (by rfl) ?_
 refine Ao (e_t eh) (gx 0 rfl) (by rfl) ?_
 refine Ap (e_t eh) e_c (B4 ?_)
 refine Bl7 (e_t eh) (BQ1 e_c (Ag2 ?_))
 refine AA (e_t (Ad rfl (em rfl eh))) (by rfl) ?_
 refine Ao (e_t eh) (gx 0 rfl) (by rfl) ?_
 refine Ap (e_t eh) e_c (B4 ?_)
 refine Bl7 (e_t eh) (BQ1 e_c (Ag2 ?_))
 refine T2 (cs := [(.d (.int .i64 (min (IntKind.wrap .i64 (p0.nodes + (1 : Int))) (1000 : Int)))), (.d (.int .i64 (min (IntKind.wrap .i64 (p0.depth + (1 : Int))) (1000 : Int))))]) (DZ (e_t (Ad rfl eh)) A2 rfl (Nat.le_of_ble_eq_true rfl) (by rfl) (DZ (e_t eh) A2 rfl (Nat.le_of_ble_eq_true rfl) (by rfl) Ae4)) (DX (e_t (Ad rfl eh)) A2 (by rfl) (DX (e_t eh) A2 (by rfl) Ab6)) ?_
 refine BB (e_t (Ak rfl (em rfl eh))) (gx 1 rfl) (e_t eh) Bi rfl (Nat.le_of_ble_eq_true rfl) (by rfl) (cells' := [(.d (.int .i64 (min (IntKind.wrap .i64 (p0.nodes + (1 : Int))) (1000 : Int)))), (.d (.int .i64 (min (IntKind.wrap .i64 (p0.depth + (1 : Int))) (1000 : Int))))]) (by rfl) (BD rfl _ _) ?_
 refine Aa (Ae (AH ?_))
 subst hr
 exact A5 (Iz (Ak rfl (em rfl eh)) (gx 1 rfl) (Nat.le_of_ble_eq_true rfl) (by rfl) AG) (AK (Cw (Aq f_d (Aq f_d Dg))) (AY4 rfl)) (As hwf) h
def MG (s_SsizeExpr : TE → Int → Option T_Ssize) (n : Nat) (p0 : TE) (p1 : Int) : Option T_Ssize :=
 ((FM n p0.Args (IntKind.wrap .i64 (p1 + (1 : Int))) (fun (a0 : TE) (a1 : Int) => s_SsizeExpr a0 a1)).bind fun v2 => some (Lf v2))
theorem Bv1 (s_SsizeExpr : TE → Int → Option T_Ssize) (n : Nat) (p0 : TE) (p1 : Int) (H_s_SsizeExpr : ∀ (p0 : TE) (p1 : Int) {r : T_Ssize}, s_SsizeExpr p0 p1 = some r → ∀ {st : List Content} {K : PV → List Content → Prop} (h : K (.agg [(.d (.int .i64 r.nodes)), (.d (.int .i64 r.depth))]) st), Aw PR GS [(.agg [(.d (.int .i64 p0.Op)), (.d (.int .i64 p0.N)), (.d (.str p0.S)), (.d (.str p0.Name)), (.d (.str p0.Src)), (.d (.sl (List.map TE.row p0.Args)))]), (.d (.int .i64 p1))] st K) {r : T_Ssize} (hr : MG s_SsizeExpr n p0 p1 = some r) {K : PV → List Content → Prop} (h : K (.agg [(.d (.int .i64 r.nodes)), (.d (.int .i64 r.depth))]) st) : Aw PR GS [(.agg [(.d (.int .i64 p0.Op)), (.d (.int .i64 p0.N)), (.d (.str p0.S)), (.d (.str p0.Name)), (.d (.str p0.Src)), (.d (.sl (List.map TE.row p0.Args)))]), (.d (.int .i64 p1))] st K := by
 refine Aw.of AX6 (Nat.le_of_ble_eq_true rfl) fun hwf => ?_
 rw [ED]
 refine AS ?_
 unfold Ae8
 rw [MG] at hr
 refine Al (Af ?_)
 unfold Al0
 refine GV (k := 0) rfl rfl (e_t eh) Bi (by rfl) ?_
 refine Dv (k := 1) rfl rfl ?_
 refine Aa (Ae (Al (Af ?_)))
 unfold Ag9
 refine AA (e_t (em rfl eh)) (by rfl) ?_
 refine Ao (e_t eh) (gx 0 rfl) (by rfl) ?_
 refine Ab (e_t (Ad rfl (em rfl eh))) ?_
 refine Ap (e_t eh) e_c (B4 ?_)
 obtain ⟨v2, hc_v2, hr⟩ := bind_some hr
 refine AY (Az (e_t (Ac rfl eh)) AF (Az (e_t eh) AF (Az e_c Y3 A1))) ?_
 refine YX n p0.Args (IntKind.wrap .i64 (p1 + (1 : Int))) (fun (a0 : TE) (a1 : Int) => s_SsizeExpr a0 a1) (fun a0 a1 {_} hr {_ _} hk => H_s_SsizeExpr a0 a1 hr hk) (fun _ => rfl) hc_v2 ?_
 refine AY (Az (e_t eh) (Cw (Aq f_d (Aq f_d Dg))) A1) ?_
 refine BP6 v2 rfl ?_
 refine BB (e_t (Ad rfl (Ac rfl eh))) (gx 1 rfl) (e_t eh) Bi rfl (Nat.le_of_ble_eq_true rfl) (by rfl) (cells' := [(.d (.int .i64 ((Lf v2).nodes))), (.d (.int .i64 ((Lf v2).depth)))]) (by rfl) (BD rfl _ _) ?_
 refine Aa (Ae (AH ?_))
 cases hr
 exact A5 (Iz (Ad rfl (Ac rfl eh)) (gx 1 rfl) (Nat.le_of_ble_eq_true rfl) (by rfl) AG) (AK (Cw (Aq f_d (Aq f_d Dg))) (AY4 rfl)) (As hwf) h
def CV : Nat → TE → Int → Option T_Ssize
 | 0, _, _ => none
 | n + 1, p0, p1 => MG (CV n) n p0 p1
theorem AM3 : ∀ n : Nat, (∀ (p0 : TE) (p1 : Int) {r : T_Ssize}, CV n p0 p1 = some r → ∀ {st : List Content} {K : PV → List Content → Prop} (h : K (.agg [(.d (.int .i64 r.nodes)), (.d (.int .i64 r.depth))]) st), Aw PR GS [(.agg [(.d (.int .i64 p0.Op)), (.d (.int .i64 p0.N)), (.d (.str p0.S)), (.d (.str p0.Name)), (.d (.str p0.Src)), (.d (.sl (List.map TE.row p0.Args)))]), (.d (.int .i64 p1))] st K)
 | 0 => fun _ _ _ hr => (by rw [CV] at hr; cases hr)
 | n + 1 => fun p0 p1 _ hr _ _ h => Bv1 (CV n) n p0 p1 (AM3 n) (by rw [CV] at hr; exact hr) h
theorem Bx5 (n : Nat) (p0 : TE) (p1 : Int) {r : T_Ssize} (hr : CV n p0 p1 = some r) {K : PV → List Content → Prop} (h : K (.agg [(.d (.int .i64 r.nodes)), (.d (.int .i64 r.depth))]) st) : Aw PR GS [(.agg [(.d (.int .i64 p0.Op)), (.d (.int .i64 p0.N)), (.d (.str p0.S)), (.d (.str p0.Name)), (.d (.str p0.Src)), (.d (.sl (List.map TE.row p0.Args)))]), (.d (.int .i64 p1))] st K := (AM3 n) p0 p1 hr h
def MD (s_SsizeStmt : TS → Int → Option T_Ssize) (n : Nat) (p0 : TS) (p1 : Int) : Option T_Ssize :=
 ((FM n p0.Exprs (IntKind.wrap .i64 (p1 + (1 : Int))) (fun (a0 : TE) (a1 : Int) => CV n a0 a1)).bind fun v2 => ((DP n p0.Body (IntKind.wrap .i64 (p1 + (1 : Int))) (fun (a0 : TS) (a1 : Int) => s_SsizeStmt a0 a1)).bind fun v3 => ((DP n p0.Else (IntKind.wrap .i64 (p1 + (1 : Int))) (fun (a0 : TS) (a1 : Int) => s_SsizeStmt a0 a1)).bind fun v4 => some (Lf (A0 (A0 v2 v3) v4)))))
theorem Bu7 (s_SsizeStmt : TS → Int → Option T_Ssize) (n : Nat) (p0 : TS) (p1 : Int) (H_s_SsizeStmt : ∀ (p0 : TS) (p1 : Int) {r : T_Ssize}, s_SsizeStmt p0 p1 = some r → ∀ {st : List Content} {K : PV → List Content → Prop} (h : K (.agg [(.d (.int .i64 r.nodes)), (.d (.int .i64 r.depth))]) st), Aw PR FS [(.agg [(.d (.int .i64 p0.Op)), (.d (.str p0.Name)), (.d (.str p0.Src)), (.d (.int .i64 p0.N)), (.d (.sl (List.map rS p0.Cols))), (.d (.sl (List.map TE.row p0.Exprs))), (.d (.sl (List.map TS.row p0.Body))), (.d (.sl (List.map TS.row p0.Else)))]), (.d (.int .i64 p1))] st K) {r : T_Ssize} (hr : MD s_SsizeStmt n p0 p1 = some r) {K : PV → List Content → Prop} (h : K (.agg [(.d (.int .i64 r.nodes)), (.d (.int .i64 r.depth))]) st) : Aw PR FS [(.agg [(.d (.int .i64 p0.Op)), (.d (.str p0.Name)), (.d (.str p0.Src)), (.d (.int .i64 p0.N)), (.d (.sl (List.map rS p0.Cols))), (.d (.sl (List.map TE.row p0.Exprs))), (.d (.sl (List.map TS.row p0.Body))), (.d (.sl (List.map TS.row p0.Else)))]), (.d (.int .i64 p1))] st K := by
 refine Aw.of AX5 (Nat.le_of_ble_eq_true rfl) fun hwf => ?_
 rw [ED]
 refine AS ?_
 unfold Ac7
 rw [MD] at hr
 refine Al (Af ?_)
 unfold Aj5
 refine GV (k := 0) rfl rfl (e_t eh) Bi (by rfl) ?_
 refine Dv (k := 1) rfl rfl ?_
 refine Aa (Ae (Al (Af ?_)))
 unfold Aj9
 refine AA (e_t (em rfl eh)) (by rfl) ?_
 refine Ao (e_t eh) (gx 0 rfl) (by rfl) ?_
 refine Ab (e_t (Ad rfl (em rfl eh))) ?_
 refine Ap (e_t eh) e_c (B4 ?_)
 obtain ⟨v2, hc_v2, hr⟩ := bind_some hr
 refine AY (Az (e_t (Ac rfl eh)) AF (Az (e_t eh) AF (Az e_c Y3 A1))) ?_
 refine YX n p0.Exprs (IntKind.wrap .i64 (p1 + (1 : Int))) (fun (a0 : TE) (a1 : Int) => CV n a0 a1) (fun a0 a1 {_} hr {_ _} hk => Bx5 n a0 a1 hr hk) (fun _ => rfl) hc_v2 ?_
 refine Dv (k := 2) rfl rfl ?_
 refine BB (e_t eh) (gx 2 rfl) (e_t (em rfl eh)) Bi rfl (Nat.le_of_ble_eq_true rfl) (by rfl) (cells' := [(.d (.int .i64 v2.nodes)), (.d (.int .i64 v2.depth))]) (by rfl) (BD rfl _ _) ?_
 refine Aa (Ae (Al (Af ?_)))
 unfold Ag7
 refine AA (e_t (Ad rfl (Ac rfl (em rfl eh)))) (by rfl) ?_
 refine Ao (e_t eh) (gx 0 rfl) (by rfl) ?_
 refine Ab (e_t (Ak rfl (Ac rfl (em rfl eh)))) ?_
 refine Ap (e_t eh) e_c (B4 ?_)
 obtain ⟨v3, hc_v3, hr⟩ := bind_some hr
 refine AY (Az (e_t (Ac rfl eh)) AF (Az (e_t eh) AF (Az e_c Y3 A1))) ?_
 refine PE n p0.Body (IntKind.wrap .i64 (p1 + (1 : Int))) (fun (a0 : TS) (a1 : Int) => s_SsizeStmt a0 a1) (fun a0 a1 {_} hr {_ _} hk => H_s_SsizeStmt a0 a1 hr hk) (fun _ => rfl) hc_v3 ?_
 refine AY (Az (e_t (Ad rfl (em rfl eh))) At2 (Az (e_t eh) (Cw (Aq f_d (Aq f_d Dg))) A1)) ?_
 refine TQ v2 v3 rfl (gx 2 rfl) (BD rfl _ _) ?_
 refine Aa (Ae (Al (Af ?_)))
 unfold Ac8
 refine AA (e_t (Ak rfl (Ad rfl (em rfl eh)))) (by rfl) ?_
 refine Ao (e_t eh) (gx 0 rfl) (by rfl) ?_
 refine Ab (e_t (Ai rfl (em rfl eh))) ?_
 refine Ap (e_t eh) e_c (B4 ?_)
 obtain ⟨v4, hc_v4, hr⟩ := bind_some hr
 refine AY (Az (e_t (Ac rfl eh)) AF (Az (e_t eh) AF (Az e_c Y3 A1))) ?_
 refine PE n p0.Else (IntKind.wrap .i64 (p1 + (1 : Int))) (fun (a0 : TS) (a1 : Int) => s_SsizeStmt a0 a1) (fun a0 a1 {_} hr {_ _} hk => H_s_SsizeStmt a0 a1 hr hk) (fun _ => rfl) hc_v4 ?_
 refine AY (Az (e_t (Ak rfl (Ac rfl (em rfl eh)))) At2 (Az (e_t eh) (Cw (Aq f_d (Aq f_d Dg))) A1)) ?_
 refine TQ (A0 v2 v3) v4 rfl (gx 2 rfl) (BD rfl _ _) ?_
 refine Aa (Ae (Al (Af ?_)))
 unfold Al5
 refine Cn (e_t (Ak rfl (Ad rfl eh))) (gx 2 rfl) (Nat.le_of_ble_eq_true rfl) (by rfl) ?_
 refine AY (Az (e_t eh) (Cw (Aq f_d (Aq f_d Dg))) A1) ?_
 refine BP6 (A0 (A0 v2 v3) v4) rfl ?_
 refine BB (e_t (Ai rfl (Ad rfl eh))) (gx 1 rfl) (e_t eh) Bi rfl (Nat.le_of_ble_eq_true rfl) (by rfl) (cells' := [(.d (.int .i64 ((Lf (A0 (A0 v2 v3) v4)).nodes))), (.d (.int .i64 ((Lf (A0 (A0 v2 v3) v4)).depth)))]) (by rfl) (BD rfl _ _) ?_
 refine Aa (Ae (AH ?_))
 cases hr
 exact A5 (Iz (Ai rfl (Ad rfl eh)) (gx 1 rfl) (Nat.le_of_ble_eq_true rfl) (by rfl) AG) (AK (Cw (Aq f_d (Aq f_d Dg))) (AY4 rfl)) (As hwf) h
def Cr : Nat → TS → Int → Option T_Ssize
 | 0, _, _ => none
 | n + 1, p0, p1 => MD (Cr n) n p0 p1
theorem AB1 : ∀ n : Nat, (∀ (p0 : TS) (p1 : Int) {r : T_Ssize}, Cr n p0 p1 = some r → ∀ {st : List Content} {K : PV → List Content → Prop} (h : K (.agg [(.d (.int .i64 r.nodes)), (.d (.int .i64 r.depth))]) st), Aw PR FS [(.agg [(.d (.int .i64 p0.Op)), (.d (.str p0.Name)), (.d (.str p0.Src)), (.d (.int .i64 p0.N)), (.d (.sl (List.map rS p0.Cols))), (.d (.sl (List.map TE.row p0.Exprs))), (.d (.sl (List.map TS.row p0.Body))), (.d (.sl (List.map TS.row p0.Else)))]), (.d (.int .i64 p1))] st K)
 | 0 => fun _ _ _ hr => (by rw [Cr] at hr; cases hr)
 | n + 1 => fun p0 p1 _ hr _ _ h => Bu7 (Cr n) n p0 p1 (AB1 n) (by rw [Cr] at hr; exact hr) h
theorem BA7 (n : Nat) (p0 : TS) (p1 : Int) {r : T_Ssize} (hr : Cr n p0 p1 = some r) {K : PV → List Content → Prop} (h : K (.agg [(.d (.int .i64 r.nodes)), (.d (.int .i64 r.depth))]) st) : Aw PR FS [(.agg [(.d (.int .i64 p0.Op)), (.d (.str p0.Name)), (.d (.str p0.Src)), (.d (.int .i64 p0.N)), (.d (.sl (List.map rS p0.Cols))), (.d (.sl (List.map TE.row p0.Exprs))), (.d (.sl (List.map TS.row p0.Body))), (.d (.sl (List.map TS.row p0.Else)))]), (.d (.int .i64 p1))] st K := (AB1 n) p0 p1 hr h
def CY (p0 : Int) (p1 : Int) (p2 : Int) : Bool :=
 (bif (decide (p1 ≤ p0)) then (decide (p0 ≤ p2)) else false)
theorem VJ (p0 : Int) (p1 : Int) (p2 : Int) {r : Bool} (hr : CY p0 p1 p2 = r) {K : PV → List Content → Prop} (h : K (.d (.bool r)) st) : Aw PR Kt [(.d (.int .i64 p0)), (.d (.int .i64 p1)), (.d (.int .i64 p2))] st K := by
 refine Aw.of Bq1 (Nat.le_of_ble_eq_true rfl) fun hwf => ?_
 rw [Bw4]
 refine AS ?_
 unfold AN9
 rw [CY] at hr
 refine Al (Af ?_)
 unfold Ax0
 refine Ab e_c (Aa (Ae (Al (Af ?_))))
 unfold AI1
 refine Bh ?_
 unfold Ai1
 refine Ab (e_t (em rfl eh)) (Ab (e_t (Ac rfl (em rfl eh))) ?_)
 refine Ap (e_t (em rfl eh)) (e_t eh) (E5 ?_)
 refine Ab (e_t eh) ?_
 refine Ar eh hr (fun hr => ?_) (fun hr => ?_)
 rotate_left
 · refine Ah eh (Ah (em rfl eh) (Ah (Ac rfl eh) (An (e_t (Ac rfl (em rfl eh))) e_c (Aa ?_))))
   unfold Tc
   refine Ab (e_t eh) (Aa (Ae (AH ?_)))
   subst hr
   exact A5 (AE eh AG) (AK AF v_d) (As hwf) h
 refine Aj eh (Ab (e_t (Ad rfl (Ac rfl eh))) (Aj (em rfl eh) (Ab (e_t (Ak rfl (em rfl eh))) (Aj (Ac rfl eh) ?_))))
 refine Ap (e_t (em rfl eh)) (e_t eh) (M5 ?_)
 refine Am (e_t (Ac rfl (em rfl eh))) (e_t eh) (Aa ?_)
 unfold Tc
 refine Ab (e_t eh) (Aa (Ae (AH ?_)))
 subst hr
 exact A5 (AE eh AG) (AK AF v_d) (As hwf) h
def Cf (p0 : Int) : Bool :=
 (bif (decide ((97 : Int) ≤ p0)) then (decide (p0 ≤ (122 : Int))) else false)
theorem YO (p0 : Int) {r : Bool} (hr : Cf p0 = r) {K : PV → List Content → Prop} (h : K (.d (.bool r)) st) : Aw PR Hm [(.d (.int .u8 p0))] st K := by
 refine Aw.of YS (Nat.le_of_ble_eq_true rfl) fun hwf => ?_
 rw [CE]
 refine AS ?_
 unfold PF
 rw [Cf] at hr
 refine Al (Af ?_)
 unfold To
 refine Ab e_c (Aa (Ae (Al (Af ?_))))
 unfold S8
 refine Bh ?_
 unfold Np
 refine Ab (e_t (em rfl eh)) ?_
 refine Ap (e_t eh) e_c (E5 ?_)
 refine Ab (e_t eh) ?_
 refine Ar eh hr (fun hr => ?_) (fun hr => ?_)
 rotate_left
 · refine Ah eh (Ah (em rfl eh) (An (e_t (Ac rfl eh)) e_c (Aa ?_)))
   unfold Il
   refine Ab (e_t eh) (Aa (Ae (AH ?_)))
   subst hr
   exact A5 (AE eh AG) (AK AF v_d) (As hwf) h
 refine Aj eh (Ab (e_t (Ad rfl (em rfl eh))) (Aj (em rfl eh) ?_))
 refine Ap (e_t eh) e_c (M5 ?_)
 refine Am (e_t (Ac rfl eh)) (e_t eh) (Aa ?_)
 unfold Il
 refine Ab (e_t eh) (Aa (Ae (AH ?_)))
 subst hr
 exact A5 (AE eh AG) (AK AF v_d) (As hwf) h
def Cl (p0 : Int) : Bool :=
 (bif (Cf p0) then true else (bif (decide ((48 : Int) ≤ p0)) then (bif (decide (p0 ≤ (57 : Int))) then true else (decide (p0 = (95 : Int)))) else (decide (p0 = (95 : Int)))))
theorem Bm7 (p0 : Int) {r : Bool} (hr : Cl p0 = r) {K : PV → List Content → Prop} (h : K (.d (.bool r)) st) : Aw PR MH [(.d (.int .u8 p0))] st K := by
 refine Aw.of Ap7 (Nat.le_of_ble_eq_true rfl) fun hwf => ?_
 rw [CE]
 refine AS ?_
 unfold UZ
 rw [Cl] at hr
 refine Al (Af ?_)
 unfold Vy
 refine Ab e_c (Aa (Ae (Al (Af ?_))))
 unfold VA
 refine Bh ?_
 unfold SF
 refine Ab (e_t (em rfl eh)) ?_
 refine AY (Az (e_t eh) AF A1) ?_
 refine YO p0 rfl ?_
 refine Ab (e_t eh) ?_
 refine Ar eh hr (fun hr => ?_) (fun hr => ?_)
 · refine Ah eh (Ah (em rfl eh) (Ah (Ac rfl eh) ?_))
   refine A6 eh ?_
   refine A6 (em rfl eh) ?_
   refine Ah (Ad rfl (em rfl eh)) (Am (e_t (Ad rfl (Ac rfl eh))) e_c (Aa ?_))
   refine Bh ?_
   unfold G4
   refine Ab (e_t eh) (Ah eh (Ah (em rfl eh) (Am (e_t (Ac rfl eh)) e_c (Aa ?_))))
   unfold FC
   refine Ab (e_t eh) (Aa (Ae (AH ?_)))
   subst hr
   exact A5 (AE eh AG) (AK AF v_d) (As hwf) h
 refine Aj eh (Ab (e_t (Ad rfl (em rfl eh))) (Aj (em rfl eh) ?_))
 refine Ap (e_t eh) e_c (E5 ?_)
 refine Aj (Ac rfl eh) (Ab (e_t eh) ?_)
 refine Ar eh hr (fun hr => ?_) (fun hr => ?_)
 rotate_left
 · refine Ah eh (Ah (em rfl eh) (Aj (Ad rfl (Ac rfl eh)) (An (e_t (Ac rfl eh)) e_c (An (e_t (Ad rfl (Ac rfl (em rfl eh)))) (e_t eh) (Aa ?_)))))
   refine Bh ?_
   unfold G4
   refine Ab (e_t eh) (Aj eh (Ab (e_t (Ak rfl (Ad rfl (Ac rfl eh)))) (Aj (em rfl eh) ?_)))
   refine Ap (e_t eh) e_c (Ci ?_)
   refine An (e_t (Ac rfl eh)) (e_t eh) (Aa ?_)
   unfold FC
   refine Ab (e_t eh) (Aa (Ae (AH ?_)))
   subst hr
   exact A5 (AE eh AG) (AK AF v_d) (As hwf) h
 refine Aj eh (Ab (e_t (Ak rfl (em rfl eh))) (Aj (em rfl eh) ?_))
 refine Ap (e_t eh) e_c (M5 ?_)
 refine Aj (Ad rfl (Ac rfl eh)) (Am (e_t (Ac rfl eh)) (e_t eh) (An (e_t (Ad rfl (Ac rfl (em rfl eh)))) (e_t eh) (Aa ?_)))
 refine Bh ?_
 unfold G4
 refine Ab (e_t eh) ?_
 refine Ar eh hr (fun hr => ?_) (fun hr => ?_)
 · refine Ah eh (Ah (em rfl eh) (Am (e_t (Ac rfl eh)) e_c (Aa ?_)))
   unfold FC
   refine Ab (e_t eh) (Aa (Ae (AH ?_)))
   subst hr
   exact A5 (AE eh AG) (AK AF v_d) (As hwf) h
 refine Aj eh (Ab (e_t (Ak rfl (Ad rfl (Ac rfl (em rfl eh))))) (Aj (em rfl eh) ?_))
 refine Ap (e_t eh) e_c (Ci ?_)
 refine An (e_t (Ac rfl eh)) (e_t eh) (Aa ?_)
 unfold FC
 refine Ab (e_t eh) (Aa (Ae (AH ?_)))
 subst hr
 exact A5 (AE eh AG) (AK AF v_d) (As hwf) h
def G2 (p0 : ByteArray) (q0 : Int → Option Bool) (v4 : Int) : Option Bool :=
 (bif (decide (v4 < ((DV p0).length : Int))) then ((Dw (DV p0) v4).bind fun v5 => (bif (!(Cl v5)) then some false else q0 (IntKind.wrap .i64 (v4 + (1 : Int))))) else some true)
def BX (p0 : ByteArray) : Nat → Int → Option Bool
 | 0, _ => none
 | m + 1, v4 => G2 p0 (BX p0 m) v4
def FQ (p0 : ByteArray) (n : Nat) (v3 : Bool) : Option Bool :=
 (bif v3 then some false else (BX p0 n (0 : Int)))
def FU (p0 : ByteArray) (n : Nat) (v1 : Bool) : Option Bool :=
 (bif v1 then (FQ p0 n true) else ((BF1 p0 (0 : Int)).bind fun v2 => (FQ p0 n (!(Cf v2)))))
def Gz (n : Nat) (p0 : ByteArray) : Option Bool :=
 (bif (decide (p0 = (⟨#[]⟩ : ByteArray))) then (FU p0 n true) else (FU p0 n (decide ((16 : Int) < (p0.size : Int)))))
theorem Bh0 (n : Nat) (p0 : ByteArray) {r : Bool} (hr : Gz n p0 = some r) {K : PV → List Content → Prop} (h : K (.d (.bool r)) st) : Aw PR Le [(.d (.str p0))] st K := by
 refine Aw.of Ad3 (Nat.le_of_ble_eq_true rfl) fun hwf => ?_
 rw [CE]
 refine AS ?_
 unfold Ts
 rw [Gz] at hr
 refine Al (Af ?_)
 unfold TY
 refine Ab e_c (Aa (Ae (Al ?_)))
 refine BL (fun f st' => ∃ (v3 : Bool), FQ p0 n v3 = some r ∧ f 0 = (.d (.str p0)) ∧ f 17 = (.d (.bool v3)) ∧ st' = st ++ []) ?_ ?_
 · refine Af ?_
   unfold T4
   refine Ba (fun f st' => ∃ (v1 : Bool), FU p0 n v1 = some r ∧ f 0 = (.d (.str p0)) ∧ f 11 = (.d (.bool v1)) ∧ st' = st ++ []) ?_ ?_
   · unfold Qn
     refine Ab (e_t (em rfl eh)) ?_
     refine Ap (e_t eh) e_c (Do ?_)
     refine Ab (e_t eh) ?_
     refine Ar eh hr (fun hr => ?_) (fun hr => ?_)
     · refine Ah eh (Ah (em rfl eh) (Ah (Ac rfl eh) (Am (e_t (Ac rfl (em rfl eh))) e_c (Aa ?_))))
       exact ⟨true, hr, (Ak rfl (em rfl eh)), eh, rfl⟩
     refine Aj eh (Ab (e_t (Ad rfl (em rfl eh))) (Aj (em rfl eh) ?_))
     refine I2 (e_t eh) ?_
     refine Aj (Ac rfl eh) ?_
     refine Ap (e_t eh) e_c (B6 ?_)
     refine An (e_t (Ac rfl (em rfl eh))) (e_t eh) (Aa ?_)
     exact ⟨(decide ((16 : Int) < (p0.size : Int))), hr, (Ak rfl (em rfl eh)), eh, rfl⟩
   rintro f st' ⟨v1, hr, h0, h11, rfl⟩
   rw [FU] at hr
   unfold Qv
   refine Ab (e_t h11) ?_
   refine Ar eh hr (fun hr => ?_) (fun hr => ?_)
   · refine Ah eh (Ah (em rfl eh) (Ah (Ac rfl eh) (Ah (Ac rfl (em rfl eh)) (Am (e_t (Ad rfl eh)) e_c (Aa ?_)))))
     refine Ae ?_
     exact ⟨true, hr, (Ad rfl (Ac rfl (em rfl h0))), eh, rfl⟩
   refine Aj eh (Ab (e_t (Ac rfl h0)) (Aj (em rfl eh) ?_))
   refine Bv3 (e_t eh) e_c hr (fun v2 hr => ?_)
   refine Aj (Ac rfl eh) ?_
   refine AY (Az (e_t eh) AF A1) ?_
   refine YO v2 rfl ?_
   refine Aj (Ac rfl (em rfl eh)) (CN (e_t eh) (An (e_t (Ad rfl eh)) (e_t eh) (Aa (Ae ?_))))
   exact ⟨(!(Cf v2)), hr, (Ad rfl (Ac rfl (em rfl h0))), eh, rfl⟩
 rintro f st' ⟨v3, hr, h0, h17, rfl⟩
 rw [FQ] at hr
 refine AB (e_t h17) hr (fun hr => ?_) (fun hr => ?_)
 · refine Al (Af ?_)
   unfold Ui
   refine Ab e_c (Aa (Ae (AH (Ay ?_))))
   cases hr
   exact A5 (AE eh AG) (AK AF v_d) (As hwf) h
 refine AM (Ae (Al (Al (Af ?_))))
 unfold Uc
 refine Ab (e_t h0) ?_
 refine BM8 (e_t eh) ?_
 refine Bc (row := (rI .u8)) (AN (e_t eh) Bo) ?_
 refine Ab e_c (Aa (Ae ?_))
 refine A3 ?_
 refine Cy (fun m f st' => ∃ (v4 : Int), BX p0 m v4 = some r ∧ f 19 = (.d (.sl (List.map (rI .u8) (DV p0)))) ∧ f 20 = (.d (.int .i64 ((DV p0).length : Int))) ∧ f 21 = (.d (.int .i64 v4)) ∧ st' = st ++ []) n (Ghost.refl _) ⟨(0 : Int), hr, (Ac rfl eh), (em rfl eh), eh, rfl⟩ ?_
 rintro m f st' ⟨v4, hr, h19, h20, h21, rfl⟩
 cases m with
 | zero => cases hr
 | succ m_0 =>
   rw [BX] at hr
   generalize hrec_0 : BX p0 m_0 = q0 at hr
   rw [G2] at hr
   unfold Uk
   refine Al (Af ?_)
   unfold TZ
   refine Ap (e_t h21) (e_t h20) (Da ?_)
   refine Aa (Ae (Al ?_))
   refine AB (e_t eh) hr (fun hr => ?_) (fun hr => ?_)
   rotate_left
   · refine Dj ?_
     refine A8 ?_
     refine A8 ?_
     refine Fo ?_
     refine Ae (Al (Af ?_))
     unfold SA
     refine Ab e_c (Aa (Ae (AH ?_)))
     cases hr
     exact A5 (AE eh AG) (AK AF v_d) (As hwf) h
   refine AM (Ae (Al ?_))
   refine A3 ?_
   refine Al (Af ?_)
   unfold Uj
   refine Bt (row := (rI .u8)) (AN (e_t (em rfl h19)) Bo) (e_t (em rfl h21)) hr (fun _ => rfl) (fun _ => rfl) (fun v5 hr => ?_)
   refine BF (e_t eh) (by rfl) ?_
   refine Ab (e_t eh) (Aa (Ae (Al (Af ?_))))
   unfold TI
   refine Ab (e_t eh) ?_
   refine AY (Az (e_t eh) AF A1) ?_
   refine Bm7 v5 rfl ?_
   refine CN (e_t eh) (Aa (Ae ?_))
   refine AB (e_t eh) hr (fun hr => ?_) (fun hr => ?_)
   rotate_left
   · refine AM ?_
     refine BQ ?_
     refine Ae (Af ?_)
     unfold Ud
     refine Ap (e_t (Ad rfl (Ac rfl (em rfl h21)))) e_c (B4 ?_)
     refine Ab (e_t eh) (Aa (Ae ?_))
     exact ⟨m_0, _, Nat.lt_succ_self m_0, Ghost.refl _, (IntKind.wrap .i64 (v4 + (1 : Int))), (by rw [hrec_0]; exact hr), (Ak rfl (em rfl h19)), (Ak rfl (em rfl h20)), eh, rfl⟩
   refine Al (Af ?_)
   unfold T0
   refine Ab e_c (Aa (Ae (AH ?_)))
   refine Bw ?_
   refine Ay (Ay ?_)
   refine Bw ?_
   refine Ay ?_
   cases hr
   exact A5 (AE eh AG) (AK AF v_d) (As hwf) h
end Go.Ax
