import Derived.Test.YtojkpenjeglipaaIYT
import Derived.Test.YtojkpenjeglipaaICVX
import Derived.Test.YtojkpenjeglipaaICPrim
set_option linter.unusedVariables false
set_option linter.unusedSimpArgs false
namespace Go.Ax
attribute [local irreducible] BL ER FD Bf CF Fz B6 KZ HX upd ev u0 Dt frz A6 EB mmD bnd BV Ft Do CO GU Ht G2 cutV I1 Cv
variable {st : List Content}
def B4 (p0 : T_Ssize) : Bool :=
 (bif (decide ((1000 : Int) ≤ p0.nodes)) then true else (decide ((1000 : Int) ≤ p0.depth)))
set_option maxRecDepth 100000 in
set_option maxHeartbeats 4000000 in
theorem OR (p0 : T_Ssize) {r : Bool} (hr : B4 p0 = r) {x0 : Nat} (hx_x0 : st[x0]? = some (.box [(.d (.int .i64 p0.nodes)), (.d (.int .i64 p0.depth))])) {K : PV → List Content → Prop} (h : K (.d (.bool r)) st) : Aw PR IU [(.ptr x0 0)] st K := by
 refine Aw.of Ai9 (Nat.le_of_ble_eq_true rfl) fun hwf => ?_
 rw [Cm]
 refine AQ ?_
 unfold S8
 rw [B4] at hr
 refine Al (Af ?_)
 unfold O6
 refine Ab e_c (Aa (Ae (Al (Af ?_))))
 unfold PE
 refine Bo ?_
 unfold MY
 refine Ab (e_t (em rfl eh)) ?_
 refine Ni (e_t eh) ?_
 refine AB (e_t eh) (by exact rfl) ?_
 refine Ap (e_t eh) (GE hx_x0) (by exact rfl) ?_
 refine Ar (e_t eh) e_c (ET ?_)
 refine Ab (e_t eh) ?_
 refine Au eh hr (fun hr => ?_) (fun hr => ?_)
 · refine Ah eh (Ah (em rfl eh) (Ah (Ac rfl eh) (Ah (Ac rfl (em rfl eh)) (Ah (Ad rfl eh) (An (e_t (Ad rfl (em rfl eh))) e_c ?_)))))
   refine Aa ?_
   unfold Jm
   refine Ab (e_t eh) (Aa (Ae (AI ?_)))
   subst hr
   exact A7 (AF eh AH) (AM AG v_d) (Av hwf) h
 refine Aj eh (Ab (e_t (Ad rfl (Ad rfl eh))) (Aj (em rfl eh) ?_))
 refine Ni (e_t eh) ?_
 refine Aj (Ac rfl eh) ?_
 refine AB (e_t eh) (by exact rfl) ?_
 refine Aj (Ac rfl (em rfl eh)) ?_
 refine Ap (e_t eh) (GE hx_x0) (by exact rfl) ?_
 refine Aj (Ad rfl eh) ?_
 refine Ar (e_t eh) e_c (ET ?_)
 refine Ao (e_t (Ad rfl (em rfl eh))) (e_t eh) (Aa ?_)
 unfold Jm
 refine Ab (e_t eh) (Aa (Ae (AI ?_)))
 subst hr
 exact A7 (AF eh AH) (AM AG v_d) (Av hwf) h
def A5 (p0 : T_Ssize) (p1 : T_Ssize) : T_Ssize :=
 (⟨(min (IntKind.wrap .i64 (p0.nodes + p1.nodes)) (1000 : Int)), (max p0.depth p1.depth)⟩ : T_Ssize)
set_option maxRecDepth 100000 in
set_option maxHeartbeats 4000000 in
theorem MK (p0 : T_Ssize) (p1 : T_Ssize) {r : T_Ssize} (hr : A5 p0 p1 = r) {x0 : Nat} (hx_x0 : st[x0]? = some (.box [(.d (.int .i64 p0.nodes)), (.d (.int .i64 p0.depth))])) {st' : List Content} (hst : (List.set st x0 (.box [(.d (.int .i64 r.nodes)), (.d (.int .i64 r.depth))])) = st') {K : PV → List Content → Prop} (h : K (.tup []) st') : Aw PR IK [(.ptr x0 0), (.agg [(.d (.int .i64 p1.nodes)), (.d (.int .i64 p1.depth))])] st K := by
 subst hst
 refine Aw.of Am3 (Nat.le_of_ble_eq_true rfl) fun hwf => ?_
 rw [DX]
 refine AQ ?_
 unfold We
 rw [A5] at hr
 refine Al (Af ?_)
 unfold QG
 refine Gw (k := 0) rfl rfl (e_t (em rfl eh)) Bg (by exact rfl) ?_
 refine Aa (Ae ?_)
 refine Hb (k := 1) rfl rfl ?_
 unfold QV
 refine Ag (R := []) rfl rfl (Ab (e_t (em rfl eh)) (Aa ?_))
 refine Ag (R := []) rfl rfl (Ab (e_t (Ac rfl eh)) (Aa ?_))
 refine Ag (R := []) rfl rfl (Ab (e_t (Ac rfl (em rfl eh))) (Aa ?_))
 refine Ag (R := []) rfl rfl (Ni (e_t eh) (Aa ?_))
 refine Ag (R := []) rfl rfl (AB (e_t eh) (by exact rfl) (Aa ?_))
 refine Ag rfl (Bz (e_t eh)) (Ap (e_t eh) (GE hx_x0) (by exact rfl) (Aa ?_))
 refine Ag (R := []) rfl rfl (AB (e_t (Ad rfl (Ac rfl eh))) (by exact rfl) (Aa ?_))
 refine Ag rfl (Bz (e_t eh)) (Ap (e_t eh) ((Am rfl 0).trans rfl) (by exact rfl) (Aa ?_))
 refine Ag (R := []) rfl rfl (Ar (e_t (Ac rfl eh)) (e_t eh) (BX (Aa ?_)))
 refine Ag (R := []) rfl rfl (Zg (e_t eh) (Az4 e_c (PW (Aa ?_))))
 refine Ag (R := []) rfl rfl (Ab (e_t (Ak rfl (Ac rfl (em rfl eh)))) (Aa ?_))
 refine Ag (R := []) rfl rfl (Ni (e_t eh) (Aa ?_))
 refine Ag (R := []) rfl rfl (AB (e_t eh) (by exact rfl) (Aa ?_))
 refine Ag rfl (Bz (e_t eh)) (Ap (e_t eh) (GE hx_x0) (by exact rfl) (Aa ?_))
 refine Ag (R := []) rfl rfl (AB (e_t (Ak rfl (Ad rfl (Ac rfl eh)))) (by exact rfl) (Aa ?_))
 refine Ag rfl (Bz (e_t eh)) (Ap (e_t eh) ((Am rfl 0).trans rfl) (by exact rfl) (Aa ?_))
 refine Ag (R := []) rfl rfl (Zg (e_t (Ac rfl eh)) (Zh (e_t eh) (PW (Aa ?_))))
 refine Ag (R := []) rfl rfl (Ni (e_t (Ak rfl (Ad rfl (Ad rfl eh)))) (Aa ?_))
 refine Ag (R := []) rfl rfl (AB (e_t eh) (by exact rfl) (Aa ?_))
 refine Iu (e_t eh) (GE hx_x0) (e_t (Ak rfl (em rfl eh))) AZ rfl (Nat.le_of_ble_eq_true rfl) (by exact rfl) (cells' := [(.d (.int .i64 (min (IntKind.wrap .i64 (p0.nodes + p1.nodes)) (1000 : Int)))), (.d (.int .i64 p0.depth))]) (by exact rfl) ((Np hx_x0).trans (congrArg (· ++ _) rfl)) ?_
 refine Ag (R := []) rfl rfl (Ni (e_t (Ai rfl (em rfl eh))) (Aa ?_))
 refine Ag (R := []) rfl rfl (AB (e_t eh) (by exact rfl) (Aa ?_))
 refine Iu (e_t eh) (GE (CT hx_x0)) (e_t (Ad rfl eh)) AZ rfl (Nat.le_of_ble_eq_true rfl) (by exact rfl) (cells' := [(.d (.int .i64 (min (IntKind.wrap .i64 (p0.nodes + p1.nodes)) (1000 : Int)))), (.d (.int .i64 (max p0.depth p1.depth)))]) (by exact rfl) ((Np (CT hx_x0)).trans (congrArg (· ++ _) Nn)) ?_
 refine BC ?_
 refine ⟨by simp [BV, okPairs, BS, FE, Ym hx_x0, XF hx_x0, XK hx_x0, Za hx_x0], ?_⟩
 subst hr
 exact At6 AH AK2 (Af8 (WF.setBox hwf rfl) (AW rfl)) h
def Fr (p1 : Int) (fn2 : TS → Int → Option T_Ssize) (v2 : Int) (v3 : Int) (v4 : Int) (q0 : Int → Int → Int → Option T_Ssize) (v5 : TS) (v6 : Bool) : Option T_Ssize :=
 (bif v6 then some (⟨(1000 : Int), (1000 : Int)⟩ : T_Ssize) else ((fn2 v5 p1).bind fun v7 => q0 ((A5 (⟨v2, v3⟩ : T_Ssize) v7).nodes) ((A5 (⟨v2, v3⟩ : T_Ssize) v7).depth) (IntKind.wrap .i64 (v4 + (1 : Int)))))
def Gg (p0 : (List TS)) (p1 : Int) (fn2 : TS → Int → Option T_Ssize) (q0 : Int → Int → Int → Option T_Ssize) (v2 : Int) (v3 : Int) (v4 : Int) : Option T_Ssize :=
 (bif (decide (v4 < (p0.length : Int))) then ((Dh p0 v4).bind fun v5 => (bif (B4 (⟨v2, v3⟩ : T_Ssize)) then (Fr p1 fn2 v2 v3 v4 q0 v5 true) else (Fr p1 fn2 v2 v3 v4 q0 v5 (decide ((1000 : Int) ≤ p1))))) else some (⟨v2, v3⟩ : T_Ssize))
def Ch (p0 : (List TS)) (p1 : Int) (fn2 : TS → Int → Option T_Ssize) : Nat → Int → Int → Int → Option T_Ssize
 | 0, _, _, _ => none
 | m + 1, v2, v3, v4 => Gg p0 p1 fn2 (Ch p0 p1 fn2 m) v2 v3 v4
def Dj (n : Nat) (p0 : (List TS)) (p1 : Int) (fn2 : TS → Int → Option T_Ssize) : Option T_Ssize :=
 (Ch p0 p1 fn2 n (0 : Int) (0 : Int) (0 : Int))
set_option maxRecDepth 100000 in
set_option maxHeartbeats 4000000 in
theorem It (n : Nat) (p0 : (List TS)) (p1 : Int) (fn2 : TS → Int → Option T_Ssize) {g_fn2 : FuncId} {p_fn2 q_fn2 : List PV} (H_fn2 : ∀ (a0 : TS) (a1 : Int) {r : T_Ssize}, fn2 a0 a1 = some r → ∀ {st : List Content} {K : PV → List Content → Prop}, K (.agg [(.d (.int .i64 r.nodes)), (.d (.int .i64 r.depth))]) st → Aw PR g_fn2 (p_fn2 ++ [(.agg [(.d (.int .i64 a0.Op)), (.d (.str a0.Name)), (.d (.str a0.Src)), (.d (.int .i64 a0.N)), (.d (.sl (List.map rS a0.Cols))), (.d (.sl (List.map TE.row a0.Exprs))), (.d (.sl (List.map TS.row a0.Body))), (.d (.sl (List.map TS.row a0.Else)))]), (.d (.int .i64 a1))] ++ q_fn2) st K) (B_fn2 : ∀ n, (AJ.belowL n p_fn2 && AJ.belowL n q_fn2) = true) {r : T_Ssize} (hr : Dj n p0 p1 fn2 = some r) {K : PV → List Content → Prop} (h : K (.agg [(.d (.int .i64 r.nodes)), (.d (.int .i64 r.depth))]) st) : Aw PR FG [(.d (.sl (List.map TS.row p0))), (.d (.int .i64 p1)), (.fn g_fn2 p_fn2 q_fn2)] st K := by
 refine Aw.of Xh (Nat.le_of_ble_eq_true rfl) fun hwf => ?_
 rw [Ai6]
 refine AQ ?_
 unfold PH
 rw [Dj] at hr
 refine Al (Af ?_)
 unfold Lf
 refine Ci (k := 0) rfl rfl ?_
 refine Aa (Ae (Al (Af ?_)))
 unfold Mk
 refine Ci (k := 1) rfl rfl ?_
 refine Aa (Ae (Al (Al (Af ?_))))
 unfold LQ
 refine Ab (e_t (Ac rfl eh)) ?_
 refine Bh (row := TS.row) (AL (e_t eh) Bq) ?_
 refine Ab e_c (Aa (Ae ?_))
 refine AX ?_
 refine Ca (fun m f st' => ∃ (v2 : Int), ∃ (v3 : Int), ∃ (v4 : Int), Ch p0 p1 fn2 m v2 v3 v4 = some r ∧ f 1 = (.d (.int .i64 p1)) ∧ f 2 = (.fn g_fn2 p_fn2 q_fn2) ∧ f 6 = (.ptr (st.length + 0) 0) ∧ f 7 = (.ptr (st.length + 1) 0) ∧ f 10 = (.d (.sl (List.map TS.row p0))) ∧ f 11 = (.d (.int .i64 (p0.length : Int))) ∧ f 12 = (.d (.int .i64 v4)) ∧ st' = st ++ [(.box [(.d (.int .i64 (0 : Int))), (.d (.int .i64 (0 : Int)))]), (.box [(.d (.int .i64 v2)), (.d (.int .i64 v3))])]) n (Ghost.refl _) ⟨(0 : Int), (0 : Int), (0 : Int), hr, (Ad rfl (Ac rfl eh)), (Ad rfl (Ac rfl (em rfl eh))), (Ad rfl eh), (Ac rfl (em rfl eh)), (Ac rfl eh), (em rfl eh), eh, rfl⟩ ?_
 rintro m f st' ⟨v2, v3, v4, hr, h1, h2, h6, h7, h10, h11, h12, rfl⟩
 cases m with
 | zero => cases hr
 | succ m_0 =>
   rw [Ch] at hr
   generalize hrec_0 : Ch p0 p1 fn2 m_0 = q0 at hr
   rw [Gg] at hr
   unfold L6
   refine Al (Af ?_)
   unfold L2
   refine Ar (e_t h12) (e_t h11) (CL ?_)
   refine Aa (Ae (Al ?_))
   refine AC (e_t eh) hr (fun hr => ?_) (fun hr => ?_)
   rotate_left
   · refine CP ?_
     refine A0 ?_
     refine A0 ?_
     refine Ea ?_
     refine Ae (Al (Af ?_))
     unfold KL
     refine BF (e_t (em rfl h7)) ((Am rfl 1).trans rfl) (Nat.le_of_ble_eq_true rfl) (by exact rfl) ?_
     refine Bl (e_t (Ac rfl h6)) ((Am rfl 0).trans rfl) (e_t eh) Bg rfl (Nat.le_of_ble_eq_true rfl) (by exact rfl) (cells' := [(.d (.int .i64 v2)), (.d (.int .i64 v3))]) (by exact rfl) (Bk rfl _ _) ?_
     refine Aa (Ae (AI ?_))
     cases hr
     exact A7 (GK (Ac rfl h6) ((Am rfl 0).trans rfl) (Nat.le_of_ble_eq_true rfl) (by exact rfl) AH) (AM (BP (Aq f_d (Aq f_d Cw))) (Wr rfl)) (Av hwf) h
   refine AN (Ae (Al ?_))
   refine AX ?_
   refine Al (Af ?_)
   unfold Mc
   refine Bt (row := TS.row) (AL (e_t (em rfl h10)) Bq) (e_t (em rfl h12)) hr TS.row_eq (fun _ => rfl) (fun v5 hr => ?_)
   refine DH (e_t eh) (Nat.le_of_ble_eq_true rfl) (by exact rfl) ?_
   refine Ci (k := 2) rfl rfl ?_
   refine Bl (e_t eh) ((Am rfl 2).trans rfl) (e_t (em rfl eh)) Bg rfl (Nat.le_of_ble_eq_true rfl) (by exact rfl) (cells' := [(.d (.int .i64 v5.Op)), (.d (.str v5.Name)), (.d (.str v5.Src)), (.d (.int .i64 v5.N)), (.d (.sl (List.map rS v5.Cols))), (.d (.sl (List.map TE.row v5.Exprs))), (.d (.sl (List.map TS.row v5.Body))), (.d (.sl (List.map TS.row v5.Else)))]) (by exact rfl) (Bk rfl _ _) ?_
   refine Aa (Ae (Al ?_))
   refine BD (fun f st' => ∃ (v6 : Bool), Fr p1 fn2 v2 v3 v4 q0 v5 v6 = some r ∧ f 1 = (.d (.int .i64 p1)) ∧ f 2 = (.fn g_fn2 p_fn2 q_fn2) ∧ f 6 = (.ptr (st.length + 0) 0) ∧ f 7 = (.ptr (st.length + 1) 0) ∧ f 9 = (.ptr (st.length + 2) 0) ∧ f 10 = (.d (.sl (List.map TS.row p0))) ∧ f 11 = (.d (.int .i64 (p0.length : Int))) ∧ f 12 = (.d (.int .i64 v4)) ∧ f 20 = (.d (.bool v6)) ∧ st' = st ++ [(.box [(.d (.int .i64 (0 : Int))), (.d (.int .i64 (0 : Int)))]), (.box [(.d (.int .i64 v2)), (.d (.int .i64 v3))]), (.box [(.d (.int .i64 v5.Op)), (.d (.str v5.Name)), (.d (.str v5.Src)), (.d (.int .i64 v5.N)), (.d (.sl (List.map rS v5.Cols))), (.d (.sl (List.map TE.row v5.Exprs))), (.d (.sl (List.map TS.row v5.Body))), (.d (.sl (List.map TS.row v5.Else)))])]) ?_ ?_
   · refine Af ?_
     unfold Lg
     refine AP (Ay (e_t (Ad rfl h7)) ON AR) ?_
     refine OR (⟨v2, v3⟩ : T_Ssize) rfl ((Am rfl 1).trans rfl) ?_
     refine Ab (e_t eh) ?_
     refine Au eh hr (fun hr => ?_) (fun hr => ?_)
     · refine Ah eh (Ah (em rfl eh) (An (e_t (Ac rfl eh)) e_c (Aa (Ae ?_))))
       exact ⟨true, hr, (Ak rfl (Ac rfl h1)), (Ak rfl (Ac rfl h2)), (Ak rfl (Ac rfl h6)), (Ak rfl (Ac rfl h7)), (Ad rfl (Ac rfl eh)), (Ak rfl (Ac rfl h10)), (Ak rfl (Ac rfl h11)), (Ak rfl (Ac rfl h12)), eh, rfl⟩
     refine Aj eh (Ab (e_t (Ad rfl (Ac rfl (em rfl h1)))) (Aj (em rfl eh) ?_))
     refine Ar (e_t eh) e_c (ET ?_)
     refine Ao (e_t (Ac rfl eh)) (e_t eh) (Aa (Ae ?_))
     exact ⟨(decide ((1000 : Int) ≤ p1)), hr, (Ak rfl (Ac rfl h1)), (Ak rfl (Ac rfl h2)), (Ak rfl (Ac rfl h6)), (Ak rfl (Ac rfl h7)), (Ad rfl (Ac rfl eh)), (Ak rfl (Ac rfl h10)), (Ak rfl (Ac rfl h11)), (Ak rfl (Ac rfl h12)), eh, rfl⟩
   rintro f st' ⟨v6, hr, h1, h2, h6, h7, h9, h10, h11, h12, h20, rfl⟩
   rw [Fr] at hr
   refine AC (e_t h20) hr (fun hr => ?_) (fun hr => ?_)
   · refine Al (Af ?_)
     unfold Lx
     refine Ir (cs := [(.d (.int .i64 (1000 : Int))), (.d (.int .i64 (1000 : Int)))]) (Cl e_c AZ rfl (Nat.le_of_ble_eq_true rfl) (by exact rfl) (Cl e_c AZ rfl (Nat.le_of_ble_eq_true rfl) (by exact rfl) Kp)) (Ck e_c AZ (by exact rfl) (Ck e_c AZ (by exact rfl) Kt)) ?_
     refine Bl (e_t (em rfl h6)) ((Am rfl 0).trans rfl) (e_t eh) Bg rfl (Nat.le_of_ble_eq_true rfl) (by exact rfl) (cells' := [(.d (.int .i64 (1000 : Int))), (.d (.int .i64 (1000 : Int)))]) (by exact rfl) (Bk rfl _ _) ?_
     refine Aa (Ae (AI (AA ?_)))
     refine BE ?_
     refine AA (AA ?_)
     refine BE ?_
     refine AA ?_
     cases hr
     exact A7 (GK (em rfl h6) ((Am rfl 0).trans rfl) (Nat.le_of_ble_eq_true rfl) (by exact rfl) AH) (AM (BP (Aq f_d (Aq f_d Cw))) (Wr rfl)) (Av hwf) h
   refine AN (Ae (Af ?_))
   unfold Ma
   refine Ab (e_t h2) ?_
   refine BF (e_t (em rfl h9)) ((Am rfl 2).trans rfl) (Nat.le_of_ble_eq_true rfl) (by exact rfl) ?_
   refine Ab (e_t (Ac rfl h1)) ?_
   obtain ⟨v7, hc_v7, hr⟩ := bind_some hr
   refine Ao8 (e_t (Ac rfl eh)) (Ay (e_t (em rfl eh)) (BP (Aq f_d (Aq f_d (Aq f_d (Aq f_d (Aq f_d (Aq f_d (Aq f_d (Aq f_d Cw))))))))) (Ay (e_t eh) AG AR)) rfl ?_
   refine H_fn2 v5 p1 hc_v7 ?_
   refine AP (Ay (e_t (Ad rfl h7)) ON (Ay (e_t eh) (BP (Aq f_d (Aq f_d Cw))) AR)) ?_
   refine MK (⟨v2, v3⟩ : T_Ssize) v7 rfl ((Am rfl 1).trans rfl) (Bk rfl _ _) ?_
   refine Aa ?_
   refine BA ?_
   refine Ae (Af ?_)
   unfold LF
   refine Ar (e_t (Ad rfl (em rfl h12))) e_c (BX ?_)
   refine Ab (e_t eh) (Aa (Ae ?_))
   exact ⟨m_0, _, Nat.lt_succ_self m_0, Ghost.cut _ (st.length + 2) (Nat.le_add_right _ _), (A5 (⟨v2, v3⟩ : T_Ssize) v7).nodes, (A5 (⟨v2, v3⟩ : T_Ssize) v7).depth, (IntKind.wrap .i64 (v4 + (1 : Int))), (by rw [hrec_0]; exact hr), ((congrArg (cutV _) (Ad rfl (Ac rfl (em rfl h1)))).trans (v_d)), ((congrArg (cutV _) (Ad rfl (Ac rfl (em rfl h2)))).trans (Ay3 (B_fn2 _))), ((congrArg (cutV _) (Ad rfl (Ac rfl (em rfl h6)))).trans (by simp [cutV, AJ])), ((congrArg (cutV _) (Ad rfl (Ac rfl (em rfl h7)))).trans (by simp [cutV, AJ])), ((congrArg (cutV _) (Ad rfl (Ac rfl (em rfl h10)))).trans (v_d)), ((congrArg (cutV _) (Ad rfl (Ac rfl (em rfl h11)))).trans (v_d)), ((congrArg (cutV _) eh).trans (v_d)), (EO (l0 := [(.box [(.d (.int .i64 (0 : Int))), (.d (.int .i64 (0 : Int)))]), (.box [(.d (.int .i64 ((A5 (⟨v2, v3⟩ : T_Ssize) v7).nodes))), (.d (.int .i64 ((A5 (⟨v2, v3⟩ : T_Ssize) v7).depth)))])]) (l1 := _) hwf rfl rfl rfl)⟩
def Fv (p1 : Int) (fn2 : TE → Int → Option T_Ssize) (v2 : Int) (v3 : Int) (v4 : Int) (q0 : Int → Int → Int → Option T_Ssize) (v5 : TE) (v6 : Bool) : Option T_Ssize :=
 (bif v6 then some (⟨(1000 : Int), (1000 : Int)⟩ : T_Ssize) else ((fn2 v5 p1).bind fun v7 => q0 ((A5 (⟨v2, v3⟩ : T_Ssize) v7).nodes) ((A5 (⟨v2, v3⟩ : T_Ssize) v7).depth) (IntKind.wrap .i64 (v4 + (1 : Int)))))
def Gh (p0 : (List TE)) (p1 : Int) (fn2 : TE → Int → Option T_Ssize) (q0 : Int → Int → Int → Option T_Ssize) (v2 : Int) (v3 : Int) (v4 : Int) : Option T_Ssize :=
 (bif (decide (v4 < (p0.length : Int))) then ((Dh p0 v4).bind fun v5 => (bif (B4 (⟨v2, v3⟩ : T_Ssize)) then (Fv p1 fn2 v2 v3 v4 q0 v5 true) else (Fv p1 fn2 v2 v3 v4 q0 v5 (decide ((1000 : Int) ≤ p1))))) else some (⟨v2, v3⟩ : T_Ssize))
def Cg (p0 : (List TE)) (p1 : Int) (fn2 : TE → Int → Option T_Ssize) : Nat → Int → Int → Int → Option T_Ssize
 | 0, _, _, _ => none
 | m + 1, v2, v3, v4 => Gh p0 p1 fn2 (Cg p0 p1 fn2 m) v2 v3 v4
def FF (n : Nat) (p0 : (List TE)) (p1 : Int) (fn2 : TE → Int → Option T_Ssize) : Option T_Ssize :=
 (Cg p0 p1 fn2 n (0 : Int) (0 : Int) (0 : Int))
set_option maxRecDepth 100000 in
set_option maxHeartbeats 4000000 in
theorem Pe (n : Nat) (p0 : (List TE)) (p1 : Int) (fn2 : TE → Int → Option T_Ssize) {g_fn2 : FuncId} {p_fn2 q_fn2 : List PV} (H_fn2 : ∀ (a0 : TE) (a1 : Int) {r : T_Ssize}, fn2 a0 a1 = some r → ∀ {st : List Content} {K : PV → List Content → Prop}, K (.agg [(.d (.int .i64 r.nodes)), (.d (.int .i64 r.depth))]) st → Aw PR g_fn2 (p_fn2 ++ [(.agg [(.d (.int .i64 a0.Op)), (.d (.int .i64 a0.N)), (.d (.str a0.S)), (.d (.str a0.Name)), (.d (.str a0.Src)), (.d (.sl (List.map TE.row a0.Args)))]), (.d (.int .i64 a1))] ++ q_fn2) st K) (B_fn2 : ∀ n, (AJ.belowL n p_fn2 && AJ.belowL n q_fn2) = true) {r : T_Ssize} (hr : FF n p0 p1 fn2 = some r) {K : PV → List Content → Prop} (h : K (.agg [(.d (.int .i64 r.nodes)), (.d (.int .i64 r.depth))]) st) : Aw PR Iq [(.d (.sl (List.map TE.row p0))), (.d (.int .i64 p1)), (.fn g_fn2 p_fn2 q_fn2)] st K := by
 refine Aw.of Xj (Nat.le_of_ble_eq_true rfl) fun hwf => ?_
 rw [Ai6]
 refine AQ ?_
 unfold Pj
 rw [FF] at hr
 refine Al (Af ?_)
 unfold Lq
 refine Ci (k := 0) rfl rfl ?_
 refine Aa (Ae (Al (Af ?_)))
 unfold LR
 refine Ci (k := 1) rfl rfl ?_
 refine Aa (Ae (Al (Al (Af ?_))))
 unfold LW
 refine Ab (e_t (Ac rfl eh)) ?_
 refine Bh (row := TE.row) (AL (e_t eh) Bq) ?_
 refine Ab e_c (Aa (Ae ?_))
 refine AX ?_
 refine Ca (fun m f st' => ∃ (v2 : Int), ∃ (v3 : Int), ∃ (v4 : Int), Cg p0 p1 fn2 m v2 v3 v4 = some r ∧ f 1 = (.d (.int .i64 p1)) ∧ f 2 = (.fn g_fn2 p_fn2 q_fn2) ∧ f 6 = (.ptr (st.length + 0) 0) ∧ f 7 = (.ptr (st.length + 1) 0) ∧ f 10 = (.d (.sl (List.map TE.row p0))) ∧ f 11 = (.d (.int .i64 (p0.length : Int))) ∧ f 12 = (.d (.int .i64 v4)) ∧ st' = st ++ [(.box [(.d (.int .i64 (0 : Int))), (.d (.int .i64 (0 : Int)))]), (.box [(.d (.int .i64 v2)), (.d (.int .i64 v3))])]) n (Ghost.refl _) ⟨(0 : Int), (0 : Int), (0 : Int), hr, (Ad rfl (Ac rfl eh)), (Ad rfl (Ac rfl (em rfl eh))), (Ad rfl eh), (Ac rfl (em rfl eh)), (Ac rfl eh), (em rfl eh), eh, rfl⟩ ?_
 rintro m f st' ⟨v2, v3, v4, hr, h1, h2, h6, h7, h10, h11, h12, rfl⟩
 cases m with
 | zero => cases hr
 | succ m_0 =>
   rw [Cg] at hr
   generalize hrec_0 : Cg p0 p1 fn2 m_0 = q0 at hr
   rw [Gh] at hr
   unfold Ly
   refine Al (Af ?_)
   unfold Lv
   refine Ar (e_t h12) (e_t h11) (CL ?_)
   refine Aa (Ae (Al ?_))
   refine AC (e_t eh) hr (fun hr => ?_) (fun hr => ?_)
   rotate_left
   · refine CP ?_
     refine A0 ?_
     refine A0 ?_
     refine Ea ?_
     refine Ae (Al (Af ?_))
     unfold KS
     refine BF (e_t (em rfl h7)) ((Am rfl 1).trans rfl) (Nat.le_of_ble_eq_true rfl) (by exact rfl) ?_
     refine Bl (e_t (Ac rfl h6)) ((Am rfl 0).trans rfl) (e_t eh) Bg rfl (Nat.le_of_ble_eq_true rfl) (by exact rfl) (cells' := [(.d (.int .i64 v2)), (.d (.int .i64 v3))]) (by exact rfl) (Bk rfl _ _) ?_
     refine Aa (Ae (AI ?_))
     cases hr
     exact A7 (GK (Ac rfl h6) ((Am rfl 0).trans rfl) (Nat.le_of_ble_eq_true rfl) (by exact rfl) AH) (AM (BP (Aq f_d (Aq f_d Cw))) (Wr rfl)) (Av hwf) h
   refine AN (Ae (Al ?_))
   refine AX ?_
   refine Al (Af ?_)
   unfold Lw
   refine Bt (row := TE.row) (AL (e_t (em rfl h10)) Bq) (e_t (em rfl h12)) hr TE.row_eq (fun _ => rfl) (fun v5 hr => ?_)
   refine DH (e_t eh) (Nat.le_of_ble_eq_true rfl) (by exact rfl) ?_
   refine Ci (k := 2) rfl rfl ?_
   refine Bl (e_t eh) ((Am rfl 2).trans rfl) (e_t (em rfl eh)) Bg rfl (Nat.le_of_ble_eq_true rfl) (by exact rfl) (cells' := [(.d (.int .i64 v5.Op)), (.d (.int .i64 v5.N)), (.d (.str v5.S)), (.d (.str v5.Name)), (.d (.str v5.Src)), (.d (.sl (List.map TE.row v5.Args)))]) (by exact rfl) (Bk rfl _ _) ?_
   refine Aa (Ae (Al ?_))
   refine BD (fun f st' => ∃ (v6 : Bool), Fv p1 fn2 v2 v3 v4 q0 v5 v6 = some r ∧ f 1 = (.d (.int .i64 p1)) ∧ f 2 = (.fn g_fn2 p_fn2 q_fn2) ∧ f 6 = (.ptr (st.length + 0) 0) ∧ f 7 = (.ptr (st.length + 1) 0) ∧ f 9 = (.ptr (st.length + 2) 0) ∧ f 10 = (.d (.sl (List.map TE.row p0))) ∧ f 11 = (.d (.int .i64 (p0.length : Int))) ∧ f 12 = (.d (.int .i64 v4)) ∧ f 20 = (.d (.bool v6)) ∧ st' = st ++ [(.box [(.d (.int .i64 (0 : Int))), (.d (.int .i64 (0 : Int)))]), (.box [(.d (.int .i64 v2)), (.d (.int .i64 v3))]), (.box [(.d (.int .i64 v5.Op)), (.d (.int .i64 v5.N)), (.d (.str v5.S)), (.d (.str v5.Name)), (.d (.str v5.Src)), (.d (.sl (List.map TE.row v5.Args)))])]) ?_ ?_
   · refine Af ?_
     unfold L8
     refine AP (Ay (e_t (Ad rfl h7)) ON AR) ?_
     refine OR (⟨v2, v3⟩ : T_Ssize) rfl ((Am rfl 1).trans rfl) ?_
     refine Ab (e_t eh) ?_
     refine Au eh hr (fun hr => ?_) (fun hr => ?_)
     · refine Ah eh (Ah (em rfl eh) (An (e_t (Ac rfl eh)) e_c (Aa (Ae ?_))))
       exact ⟨true, hr, (Ak rfl (Ac rfl h1)), (Ak rfl (Ac rfl h2)), (Ak rfl (Ac rfl h6)), (Ak rfl (Ac rfl h7)), (Ad rfl (Ac rfl eh)), (Ak rfl (Ac rfl h10)), (Ak rfl (Ac rfl h11)), (Ak rfl (Ac rfl h12)), eh, rfl⟩
     refine Aj eh (Ab (e_t (Ad rfl (Ac rfl (em rfl h1)))) (Aj (em rfl eh) ?_))
     refine Ar (e_t eh) e_c (ET ?_)
     refine Ao (e_t (Ac rfl eh)) (e_t eh) (Aa (Ae ?_))
     exact ⟨(decide ((1000 : Int) ≤ p1)), hr, (Ak rfl (Ac rfl h1)), (Ak rfl (Ac rfl h2)), (Ak rfl (Ac rfl h6)), (Ak rfl (Ac rfl h7)), (Ad rfl (Ac rfl eh)), (Ak rfl (Ac rfl h10)), (Ak rfl (Ac rfl h11)), (Ak rfl (Ac rfl h12)), eh, rfl⟩
   rintro f st' ⟨v6, hr, h1, h2, h6, h7, h9, h10, h11, h12, h20, rfl⟩
   rw [Fv] at hr
   refine AC (e_t h20) hr (fun hr => ?_) (fun hr => ?_)
   · refine Al (Af ?_)
     unfold L1
     refine Ir (cs := [(.d (.int .i64 (1000 : Int))), (.d (.int .i64 (1000 : Int)))]) (Cl e_c AZ rfl (Nat.le_of_ble_eq_true rfl) (by exact rfl) (Cl e_c AZ rfl (Nat.le_of_ble_eq_true rfl) (by exact rfl) Kp)) (Ck e_c AZ (by exact rfl) (Ck e_c AZ (by exact rfl) Kt)) ?_
     refine Bl (e_t (em rfl h6)) ((Am rfl 0).trans rfl) (e_t eh) Bg rfl (Nat.le_of_ble_eq_true rfl) (by exact rfl) (cells' := [(.d (.int .i64 (1000 : Int))), (.d (.int .i64 (1000 : Int)))]) (by exact rfl) (Bk rfl _ _) ?_
     refine Aa (Ae (AI (AA ?_)))
     refine BE ?_
     refine AA (AA ?_)
     refine BE ?_
     refine AA ?_
     cases hr
     exact A7 (GK (em rfl h6) ((Am rfl 0).trans rfl) (Nat.le_of_ble_eq_true rfl) (by exact rfl) AH) (AM (BP (Aq f_d (Aq f_d Cw))) (Wr rfl)) (Av hwf) h
   refine AN (Ae (Af ?_))
   unfold Lk
   refine Ab (e_t h2) ?_
   refine BF (e_t (em rfl h9)) ((Am rfl 2).trans rfl) (Nat.le_of_ble_eq_true rfl) (by exact rfl) ?_
   refine Ab (e_t (Ac rfl h1)) ?_
   obtain ⟨v7, hc_v7, hr⟩ := bind_some hr
   refine Ao8 (e_t (Ac rfl eh)) (Ay (e_t (em rfl eh)) (BP (Aq f_d (Aq f_d (Aq f_d (Aq f_d (Aq f_d (Aq f_d Cw))))))) (Ay (e_t eh) AG AR)) rfl ?_
   refine H_fn2 v5 p1 hc_v7 ?_
   refine AP (Ay (e_t (Ad rfl h7)) ON (Ay (e_t eh) (BP (Aq f_d (Aq f_d Cw))) AR)) ?_
   refine MK (⟨v2, v3⟩ : T_Ssize) v7 rfl ((Am rfl 1).trans rfl) (Bk rfl _ _) ?_
   refine Aa ?_
   refine BA ?_
   refine Ae (Af ?_)
   unfold LL
   refine Ar (e_t (Ad rfl (em rfl h12))) e_c (BX ?_)
   refine Ab (e_t eh) (Aa (Ae ?_))
   exact ⟨m_0, _, Nat.lt_succ_self m_0, Ghost.cut _ (st.length + 2) (Nat.le_add_right _ _), (A5 (⟨v2, v3⟩ : T_Ssize) v7).nodes, (A5 (⟨v2, v3⟩ : T_Ssize) v7).depth, (IntKind.wrap .i64 (v4 + (1 : Int))), (by rw [hrec_0]; exact hr), ((congrArg (cutV _) (Ad rfl (Ac rfl (em rfl h1)))).trans (v_d)), ((congrArg (cutV _) (Ad rfl (Ac rfl (em rfl h2)))).trans (Ay3 (B_fn2 _))), ((congrArg (cutV _) (Ad rfl (Ac rfl (em rfl h6)))).trans (by simp [cutV, AJ])), ((congrArg (cutV _) (Ad rfl (Ac rfl (em rfl h7)))).trans (by simp [cutV, AJ])), ((congrArg (cutV _) (Ad rfl (Ac rfl (em rfl h10)))).trans (v_d)), ((congrArg (cutV _) (Ad rfl (Ac rfl (em rfl h11)))).trans (v_d)), ((congrArg (cutV _) eh).trans (v_d)), (EO (l0 := [(.box [(.d (.int .i64 (0 : Int))), (.d (.int .i64 (0 : Int)))]), (.box [(.d (.int .i64 ((A5 (⟨v2, v3⟩ : T_Ssize) v7).nodes))), (.d (.int .i64 ((A5 (⟨v2, v3⟩ : T_Ssize) v7).depth)))])]) (l1 := _) hwf rfl rfl rfl)⟩
def IT (p0 : T_Ssize) : T_Ssize :=
 (⟨(min (IntKind.wrap .i64 (p0.nodes + (1 : Int))) (1000 : Int)), (min (IntKind.wrap .i64 (p0.depth + (1 : Int))) (1000 : Int))⟩ : T_Ssize)
set_option maxRecDepth 100000 in
set_option maxHeartbeats 4000000 in
theorem Az7 (p0 : T_Ssize) {r : T_Ssize} (hr : IT p0 = r) {K : PV → List Content → Prop} (h : K (.agg [(.d (.int .i64 r.nodes)), (.d (.int .i64 r.depth))]) st) : Aw PR Xs [(.agg [(.d (.int .i64 p0.nodes)), (.d (.int .i64 p0.depth))])] st K := by
 refine Aw.of AL8 (Nat.le_of_ble_eq_true rfl) fun hwf => ?_
 rw [Cm]
 refine AQ ?_
 unfold Az2
 rw [IT] at hr
 refine Al (Af ?_)
 unfold Zv
 refine Gw (k := 0) rfl rfl (e_t eh) Bg (by exact rfl) ?_
 refine Ci (k := 1) rfl rfl ?_
 refine Aa (Ae (Al (Af ?_)))
 unfold Zo
 refine AB (e_t (em rfl eh)) (by exact rfl) ?_
 refine Ap (e_t eh) ((Am rfl 0).trans rfl) (by exact rfl) ?_
 refine Ar (e_t eh) e_c (BX ?_)
 refine Zg (e_t eh) (Az4 e_c (PW ?_))
 refine AB (e_t (Ad rfl (em rfl eh))) (by exact rfl) ?_
 refine Ap (e_t eh) ((Am rfl 0).trans rfl) (by exact rfl) ?_
 refine Ar (e_t eh) e_c (BX ?_)
 refine Zg (e_t eh) (Az4 e_c (PW ?_))
 refine Ir (cs := [(.d (.int .i64 (min (IntKind.wrap .i64 (p0.nodes + (1 : Int))) (1000 : Int)))), (.d (.int .i64 (min (IntKind.wrap .i64 (p0.depth + (1 : Int))) (1000 : Int))))]) (Cl (e_t (Ad rfl eh)) AZ rfl (Nat.le_of_ble_eq_true rfl) (by exact rfl) (Cl (e_t eh) AZ rfl (Nat.le_of_ble_eq_true rfl) (by exact rfl) Kp)) (Ck (e_t (Ad rfl eh)) AZ (by exact rfl) (Ck (e_t eh) AZ (by exact rfl) Kt)) ?_
 refine Bl (e_t (Ak rfl (em rfl eh))) ((Am rfl 1).trans rfl) (e_t eh) Bg rfl (Nat.le_of_ble_eq_true rfl) (by exact rfl) (cells' := [(.d (.int .i64 (min (IntKind.wrap .i64 (p0.nodes + (1 : Int))) (1000 : Int)))), (.d (.int .i64 (min (IntKind.wrap .i64 (p0.depth + (1 : Int))) (1000 : Int))))]) (by exact rfl) (Bk rfl _ _) ?_
 refine Aa (Ae (AI ?_))
 subst hr
 exact A7 (GK (Ak rfl (em rfl eh)) ((Am rfl 1).trans rfl) (Nat.le_of_ble_eq_true rfl) (by exact rfl) AH) (AM (BP (Aq f_d (Aq f_d Cw))) (Wr rfl)) (Av hwf) h
def JT (s_SsizeExpr : TE → Int → Option T_Ssize) (n : Nat) (p0 : TE) (p1 : Int) : Option T_Ssize :=
 ((FF n p0.Args (IntKind.wrap .i64 (p1 + (1 : Int))) (fun (a0 : TE) (a1 : Int) => s_SsizeExpr a0 a1)).bind fun v2 => some (IT v2))
set_option maxRecDepth 100000 in
set_option maxHeartbeats 4000000 in
theorem Ah8 (s_SsizeExpr : TE → Int → Option T_Ssize) (n : Nat) (p0 : TE) (p1 : Int) (H_s_SsizeExpr : ∀ (p0 : TE) (p1 : Int) {r : T_Ssize}, s_SsizeExpr p0 p1 = some r → ∀ {st : List Content} {K : PV → List Content → Prop} (h : K (.agg [(.d (.int .i64 r.nodes)), (.d (.int .i64 r.depth))]) st), Aw PR Hx [(.agg [(.d (.int .i64 p0.Op)), (.d (.int .i64 p0.N)), (.d (.str p0.S)), (.d (.str p0.Name)), (.d (.str p0.Src)), (.d (.sl (List.map TE.row p0.Args)))]), (.d (.int .i64 p1))] st K) {r : T_Ssize} (hr : JT s_SsizeExpr n p0 p1 = some r) {K : PV → List Content → Prop} (h : K (.agg [(.d (.int .i64 r.nodes)), (.d (.int .i64 r.depth))]) st) : Aw PR Hx [(.agg [(.d (.int .i64 p0.Op)), (.d (.int .i64 p0.N)), (.d (.str p0.S)), (.d (.str p0.Name)), (.d (.str p0.Src)), (.d (.sl (List.map TE.row p0.Args)))]), (.d (.int .i64 p1))] st K := by
 refine Aw.of Aq4 (Nat.le_of_ble_eq_true rfl) fun hwf => ?_
 rw [DX]
 refine AQ ?_
 unfold W5
 rw [JT] at hr
 refine Al (Af ?_)
 unfold Re
 refine Gw (k := 0) rfl rfl (e_t eh) Bg (by exact rfl) ?_
 refine Ci (k := 1) rfl rfl ?_
 refine Aa (Ae (Al (Af ?_)))
 unfold QA
 refine AB (e_t (em rfl eh)) (by exact rfl) ?_
 refine Ap (e_t eh) ((Am rfl 0).trans rfl) (by exact rfl) ?_
 refine Ab (e_t (Ad rfl (em rfl eh))) ?_
 refine Ar (e_t eh) e_c (BX ?_)
 obtain ⟨v2, hc_v2, hr⟩ := bind_some hr
 refine AP (Ay (e_t (Ac rfl eh)) AG (Ay (e_t eh) AG (Ay e_c LD AR))) ?_
 refine Pe n p0.Args (IntKind.wrap .i64 (p1 + (1 : Int))) (fun (a0 : TE) (a1 : Int) => s_SsizeExpr a0 a1) (fun a0 a1 {_} hr {_ _} hk => H_s_SsizeExpr a0 a1 hr hk) (fun _ => rfl) hc_v2 ?_
 refine AP (Ay (e_t eh) (BP (Aq f_d (Aq f_d Cw))) AR) ?_
 refine Az7 v2 rfl ?_
 refine Bl (e_t (Ad rfl (Ac rfl eh))) ((Am rfl 1).trans rfl) (e_t eh) Bg rfl (Nat.le_of_ble_eq_true rfl) (by exact rfl) (cells' := [(.d (.int .i64 ((IT v2).nodes))), (.d (.int .i64 ((IT v2).depth)))]) (by exact rfl) (Bk rfl _ _) ?_
 refine Aa (Ae (AI ?_))
 cases hr
 exact A7 (GK (Ad rfl (Ac rfl eh)) ((Am rfl 1).trans rfl) (Nat.le_of_ble_eq_true rfl) (by exact rfl) AH) (AM (BP (Aq f_d (Aq f_d Cw))) (Wr rfl)) (Av hwf) h
def CZ : Nat → TE → Int → Option T_Ssize
 | 0, _, _ => none
 | n + 1, p0, p1 => JT (CZ n) n p0 p1
theorem Tj : ∀ n : Nat, (∀ (p0 : TE) (p1 : Int) {r : T_Ssize}, CZ n p0 p1 = some r → ∀ {st : List Content} {K : PV → List Content → Prop} (h : K (.agg [(.d (.int .i64 r.nodes)), (.d (.int .i64 r.depth))]) st), Aw PR Hx [(.agg [(.d (.int .i64 p0.Op)), (.d (.int .i64 p0.N)), (.d (.str p0.S)), (.d (.str p0.Name)), (.d (.str p0.Src)), (.d (.sl (List.map TE.row p0.Args)))]), (.d (.int .i64 p1))] st K)
 | 0 => fun _ _ _ hr => (by rw [CZ] at hr; cases hr)
 | n + 1 => fun p0 p1 _ hr _ _ h => Ah8 (CZ n) n p0 p1 (Tj n) (by rw [CZ] at hr; exact hr) h
theorem Ar6 (n : Nat) (p0 : TE) (p1 : Int) {r : T_Ssize} (hr : CZ n p0 p1 = some r) {K : PV → List Content → Prop} (h : K (.agg [(.d (.int .i64 r.nodes)), (.d (.int .i64 r.depth))]) st) : Aw PR Hx [(.agg [(.d (.int .i64 p0.Op)), (.d (.int .i64 p0.N)), (.d (.str p0.S)), (.d (.str p0.Name)), (.d (.str p0.Src)), (.d (.sl (List.map TE.row p0.Args)))]), (.d (.int .i64 p1))] st K := (Tj n) p0 p1 hr h
end Go.Ax
