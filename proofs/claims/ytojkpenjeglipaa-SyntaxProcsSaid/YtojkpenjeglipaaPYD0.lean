import Derived.Test.YtojkpenjeglipaaPYT
import Derived.Test.YtojkpenjeglipaaPCVX
import Derived.Test.YtojkpenjeglipaaPCPrim
set_option linter.unusedVariables false
set_option linter.unusedSimpArgs false
namespace Go.Ax
attribute [local irreducible] BQ EX FK Bg CQ FI B8 Le Ii upd ev u0 Dw frz A9 EK mmD bnd B2 FD Dq CR G3 HS Hg cutV JT Cy
variable {st : List Content}
def Cg (p0 : T_Ssize) : Bool :=
 (bif (decide ((1000 : Int) ≤ p0.nodes)) then true else (decide ((1000 : Int) ≤ p0.depth)))
set_option maxRecDepth 100000 in
set_option maxHeartbeats 4000000 in
theorem Pc (p0 : T_Ssize) {r : Bool} (hr : Cg p0 = r) {x0 : Nat} (hx_x0 : st[x0]? = some (.box [(.d (.int .i64 p0.nodes)), (.d (.int .i64 p0.depth))])) {K : PV → List Content → Prop} (h : K (.d (.bool r)) st) : Av PR Jp [(.ptr x0 0)] st K := by
 refine Av.of Ap8 (Nat.le_of_ble_eq_true rfl) fun hwf => ?_
 rw [B5]
 refine AQ ?_
 unfold Tb
 rw [Cg] at hr
 refine Al (Af ?_)
 unfold Qd
 refine Ab e_c (Aa (Ae (Al (Af ?_))))
 unfold PB
 refine Bn ?_
 unfold Nr
 refine Ab (e_t (em rfl eh)) ?_
 refine Ny (e_t eh) ?_
 refine AB (e_t eh) (by exact rfl) ?_
 refine Ap (e_t eh) (GL hx_x0) (by exact rfl) ?_
 refine As (e_t eh) e_c (Ei ?_)
 refine Ab (e_t eh) ?_
 refine Au eh hr (fun hr => ?_) (fun hr => ?_)
 · refine Ag eh (Ag (em rfl eh) (Ag (Ac rfl eh) (Ag (Ac rfl (em rfl eh)) (Ag (Ad rfl eh) (An (e_t (Ad rfl (em rfl eh))) e_c ?_)))))
   refine Aa ?_
   unfold JV
   refine Ab (e_t eh) (Aa (Ae (AI ?_)))
   subst hr
   exact A7 (AG eh AH) (AN AF v_d) (Ay hwf) h
 refine Ai eh (Ab (e_t (Ad rfl (Ad rfl eh))) (Ai (em rfl eh) ?_))
 refine Ny (e_t eh) ?_
 refine Ai (Ac rfl eh) ?_
 refine AB (e_t eh) (by exact rfl) ?_
 refine Ai (Ac rfl (em rfl eh)) ?_
 refine Ap (e_t eh) (GL hx_x0) (by exact rfl) ?_
 refine Ai (Ad rfl eh) ?_
 refine As (e_t eh) e_c (Ei ?_)
 refine Ao (e_t (Ad rfl (em rfl eh))) (e_t eh) (Aa ?_)
 unfold JV
 refine Ab (e_t eh) (Aa (Ae (AI ?_)))
 subst hr
 exact A7 (AG eh AH) (AN AF v_d) (Ay hwf) h
def A8 (p0 : T_Ssize) (p1 : T_Ssize) : T_Ssize :=
 (⟨(min (IntKind.wrap .i64 (p0.nodes + p1.nodes)) (1000 : Int)), (max p0.depth p1.depth)⟩ : T_Ssize)
set_option maxRecDepth 100000 in
set_option maxHeartbeats 4000000 in
theorem Nv (p0 : T_Ssize) (p1 : T_Ssize) {r : T_Ssize} (hr : A8 p0 p1 = r) {x0 : Nat} (hx_x0 : st[x0]? = some (.box [(.d (.int .i64 p0.nodes)), (.d (.int .i64 p0.depth))])) {st' : List Content} (hst : (List.set st x0 (.box [(.d (.int .i64 r.nodes)), (.d (.int .i64 r.depth))])) = st') {K : PV → List Content → Prop} (h : K (.tup []) st') : Av PR I0 [(.ptr x0 0), (.agg [(.d (.int .i64 p1.nodes)), (.d (.int .i64 p1.depth))])] st K := by
 subst hst
 refine Av.of As6 (Nat.le_of_ble_eq_true rfl) fun hwf => ?_
 rw [Ed]
 refine AQ ?_
 unfold X7
 rw [A8] at hr
 refine Al (Af ?_)
 unfold Rv
 refine Gq (k := 0) rfl rfl (e_t (em rfl eh)) Bf (by exact rfl) ?_
 refine Aa (Ae ?_)
 refine HX (k := 1) rfl rfl ?_
 unfold Rd
 refine Ah (R := []) rfl rfl (Ab (e_t (em rfl eh)) (Aa ?_))
 refine Ah (R := []) rfl rfl (Ab (e_t (Ac rfl eh)) (Aa ?_))
 refine Ah (R := []) rfl rfl (Ab (e_t (Ac rfl (em rfl eh))) (Aa ?_))
 refine Ah (R := []) rfl rfl (Ny (e_t eh) (Aa ?_))
 refine Ah (R := []) rfl rfl (AB (e_t eh) (by exact rfl) (Aa ?_))
 refine Ah rfl (BL (e_t eh)) (Ap (e_t eh) (GL hx_x0) (by exact rfl) (Aa ?_))
 refine Ah (R := []) rfl rfl (AB (e_t (Ad rfl (Ac rfl eh))) (by exact rfl) (Aa ?_))
 refine Ah rfl (BL (e_t eh)) (Ap (e_t eh) ((Am rfl 0).trans rfl) (by exact rfl) (Aa ?_))
 refine Ah (R := []) rfl rfl (As (e_t (Ac rfl eh)) (e_t eh) (BU (Aa ?_)))
 refine Ah (R := []) rfl rfl (Ze (e_t eh) (AG3 e_c (RD (Aa ?_))))
 refine Ah (R := []) rfl rfl (Ab (e_t (Ak rfl (Ac rfl (em rfl eh)))) (Aa ?_))
 refine Ah (R := []) rfl rfl (Ny (e_t eh) (Aa ?_))
 refine Ah (R := []) rfl rfl (AB (e_t eh) (by exact rfl) (Aa ?_))
 refine Ah rfl (BL (e_t eh)) (Ap (e_t eh) (GL hx_x0) (by exact rfl) (Aa ?_))
 refine Ah (R := []) rfl rfl (AB (e_t (Ak rfl (Ad rfl (Ac rfl eh)))) (by exact rfl) (Aa ?_))
 refine Ah rfl (BL (e_t eh)) (Ap (e_t eh) ((Am rfl 0).trans rfl) (by exact rfl) (Aa ?_))
 refine Ah (R := []) rfl rfl (Ze (e_t (Ac rfl eh)) (ZM (e_t eh) (RD (Aa ?_))))
 refine Ah (R := []) rfl rfl (Ny (e_t (Ak rfl (Ad rfl (Ad rfl eh)))) (Aa ?_))
 refine Ah (R := []) rfl rfl (AB (e_t eh) (by exact rfl) (Aa ?_))
 refine JW (e_t eh) (GL hx_x0) (e_t (Ak rfl (em rfl eh))) A0 rfl (Nat.le_of_ble_eq_true rfl) (by exact rfl) (cells' := [(.d (.int .i64 (min (IntKind.wrap .i64 (p0.nodes + p1.nodes)) (1000 : Int)))), (.d (.int .i64 p0.depth))]) (by exact rfl) ((Oi hx_x0).trans (congrArg (· ++ _) rfl)) ?_
 refine Ah (R := []) rfl rfl (Ny (e_t (Aj rfl (em rfl eh))) (Aa ?_))
 refine Ah (R := []) rfl rfl (AB (e_t eh) (by exact rfl) (Aa ?_))
 refine JW (e_t eh) (GL (CT hx_x0)) (e_t (Ad rfl eh)) A0 rfl (Nat.le_of_ble_eq_true rfl) (by exact rfl) (cells' := [(.d (.int .i64 (min (IntKind.wrap .i64 (p0.nodes + p1.nodes)) (1000 : Int)))), (.d (.int .i64 (max p0.depth p1.depth)))]) (by exact rfl) ((Oi (CT hx_x0)).trans (congrArg (· ++ _) Ok)) ?_
 refine BJ ?_
 refine ⟨by simp [B2, okPairs, BZ, Ga, YB hx_x0, Aa5 hx_x0, Zc hx_x0, Z6 hx_x0], ?_⟩
 subst hr
 exact AA2 AH AM8 (Aq6 (WF.setBox hwf rfl) (AY rfl)) h
def FF (p1 : Int) (fn2 : TS → Int → Option T_Ssize) (v2 : Int) (v3 : Int) (v4 : Int) (q0 : Int → Int → Int → Option T_Ssize) (v5 : TS) (v6 : Bool) : Option T_Ssize :=
 (bif v6 then some (⟨(1000 : Int), (1000 : Int)⟩ : T_Ssize) else ((fn2 v5 p1).bind fun v7 => q0 ((A8 (⟨v2, v3⟩ : T_Ssize) v7).nodes) ((A8 (⟨v2, v3⟩ : T_Ssize) v7).depth) (IntKind.wrap .i64 (v4 + (1 : Int)))))
def Gy (p0 : (List TS)) (p1 : Int) (fn2 : TS → Int → Option T_Ssize) (q0 : Int → Int → Int → Option T_Ssize) (v2 : Int) (v3 : Int) (v4 : Int) : Option T_Ssize :=
 (bif (decide (v4 < (p0.length : Int))) then ((Dd p0 v4).bind fun v5 => (bif (Cg (⟨v2, v3⟩ : T_Ssize)) then (FF p1 fn2 v2 v3 v4 q0 v5 true) else (FF p1 fn2 v2 v3 v4 q0 v5 (decide ((1000 : Int) ≤ p1))))) else some (⟨v2, v3⟩ : T_Ssize))
def Cj (p0 : (List TS)) (p1 : Int) (fn2 : TS → Int → Option T_Ssize) : Nat → Int → Int → Int → Option T_Ssize
 | 0, _, _, _ => none
 | m + 1, v2, v3, v4 => Gy p0 p1 fn2 (Cj p0 p1 fn2 m) v2 v3 v4
def Do (n : Nat) (p0 : (List TS)) (p1 : Int) (fn2 : TS → Int → Option T_Ssize) : Option T_Ssize :=
 (Cj p0 p1 fn2 n (0 : Int) (0 : Int) (0 : Int))
set_option maxRecDepth 100000 in
set_option maxHeartbeats 4000000 in
theorem IJ (n : Nat) (p0 : (List TS)) (p1 : Int) (fn2 : TS → Int → Option T_Ssize) {g_fn2 : FuncId} {p_fn2 q_fn2 : List PV} (H_fn2 : ∀ (a0 : TS) (a1 : Int) {r : T_Ssize}, fn2 a0 a1 = some r → ∀ {st : List Content} {K : PV → List Content → Prop}, K (.agg [(.d (.int .i64 r.nodes)), (.d (.int .i64 r.depth))]) st → Av PR g_fn2 (p_fn2 ++ [(.agg [(.d (.int .i64 a0.Op)), (.d (.str a0.Name)), (.d (.str a0.Src)), (.d (.int .i64 a0.N)), (.d (.sl (List.map rS a0.Cols))), (.d (.sl (List.map TE.row a0.Exprs))), (.d (.sl (List.map TS.row a0.Body))), (.d (.sl (List.map TS.row a0.Else)))]), (.d (.int .i64 a1))] ++ q_fn2) st K) (B_fn2 : ∀ n, (AK.belowL n p_fn2 && AK.belowL n q_fn2) = true) {r : T_Ssize} (hr : Do n p0 p1 fn2 = some r) {K : PV → List Content → Prop} (h : K (.agg [(.d (.int .i64 r.nodes)), (.d (.int .i64 r.depth))]) st) : Av PR FN [(.d (.sl (List.map TS.row p0))), (.d (.int .i64 p1)), (.fn g_fn2 p_fn2 q_fn2)] st K := by
 refine Av.of Yg (Nat.le_of_ble_eq_true rfl) fun hwf => ?_
 rw [Yk]
 refine AQ ?_
 unfold PK
 rw [Do] at hr
 refine Al (Af ?_)
 unfold L9
 refine Cn (k := 0) rfl rfl ?_
 refine Aa (Ae (Al (Af ?_)))
 unfold LF
 refine Cn (k := 1) rfl rfl ?_
 refine Aa (Ae (Al (Al (Af ?_))))
 unfold LP
 refine Ab (e_t (Ac rfl eh)) ?_
 refine Bh (row := TS.row) (AP (e_t eh) Bt) ?_
 refine Ab e_c (Aa (Ae ?_))
 refine AT ?_
 refine BX (fun m f st' => ∃ (v2 : Int), ∃ (v3 : Int), ∃ (v4 : Int), Cj p0 p1 fn2 m v2 v3 v4 = some r ∧ f 1 = (.d (.int .i64 p1)) ∧ f 2 = (.fn g_fn2 p_fn2 q_fn2) ∧ f 6 = (.ptr (st.length + 0) 0) ∧ f 7 = (.ptr (st.length + 1) 0) ∧ f 10 = (.d (.sl (List.map TS.row p0))) ∧ f 11 = (.d (.int .i64 (p0.length : Int))) ∧ f 12 = (.d (.int .i64 v4)) ∧ st' = st ++ [(.box [(.d (.int .i64 (0 : Int))), (.d (.int .i64 (0 : Int)))]), (.box [(.d (.int .i64 v2)), (.d (.int .i64 v3))])]) n (Ghost.refl _) ⟨(0 : Int), (0 : Int), (0 : Int), hr, (Ad rfl (Ac rfl eh)), (Ad rfl (Ac rfl (em rfl eh))), (Ad rfl eh), (Ac rfl (em rfl eh)), (Ac rfl eh), (em rfl eh), eh, rfl⟩ ?_
 rintro m f st' ⟨v2, v3, v4, hr, h1, h2, h6, h7, h10, h11, h12, rfl⟩
 cases m with
 | zero => cases hr
 | succ m_0 =>
   rw [Cj] at hr
   generalize hrec_0 : Cj p0 p1 fn2 m_0 = q0 at hr
   rw [Gy] at hr
   unfold Mp
   refine Al (Af ?_)
   unfold LX
   refine As (e_t h12) (e_t h11) (CM ?_)
   refine Aa (Ae (Al ?_))
   refine AC (e_t eh) hr (fun hr => ?_) (fun hr => ?_)
   rotate_left
   · refine CG ?_
     refine AW ?_
     refine AW ?_
     refine DF ?_
     refine Ae (Al (Af ?_))
     unfold K3
     refine Bw (e_t (em rfl h7)) ((Am rfl 1).trans rfl) (Nat.le_of_ble_eq_true rfl) (by exact rfl) ?_
     refine Bl (e_t (Ac rfl h6)) ((Am rfl 0).trans rfl) (e_t eh) Bf rfl (Nat.le_of_ble_eq_true rfl) (by exact rfl) (cells' := [(.d (.int .i64 v2)), (.d (.int .i64 v3))]) (by exact rfl) (Bo rfl _ _) ?_
     refine Aa (Ae (AI ?_))
     cases hr
     exact A7 (G9 (Ac rfl h6) ((Am rfl 0).trans rfl) (Nat.le_of_ble_eq_true rfl) (by exact rfl) AH) (AN (Bx (Aq f_d (Aq f_d B3))) (XW rfl)) (Ay hwf) h
   refine AO (Ae (Al ?_))
   refine AT ?_
   refine Al (Af ?_)
   unfold L1
   refine Br (row := TS.row) (AP (e_t (em rfl h10)) Bt) (e_t (em rfl h12)) hr TS.row_eq (fun _ => rfl) (fun v5 hr => ?_)
   refine Dc (e_t eh) (Nat.le_of_ble_eq_true rfl) (by exact rfl) ?_
   refine Cn (k := 2) rfl rfl ?_
   refine Bl (e_t eh) ((Am rfl 2).trans rfl) (e_t (em rfl eh)) Bf rfl (Nat.le_of_ble_eq_true rfl) (by exact rfl) (cells' := [(.d (.int .i64 v5.Op)), (.d (.str v5.Name)), (.d (.str v5.Src)), (.d (.int .i64 v5.N)), (.d (.sl (List.map rS v5.Cols))), (.d (.sl (List.map TE.row v5.Exprs))), (.d (.sl (List.map TS.row v5.Body))), (.d (.sl (List.map TS.row v5.Else)))]) (by exact rfl) (Bo rfl _ _) ?_
   refine Aa (Ae (Al ?_))
   refine By (fun f st' => ∃ (v6 : Bool), FF p1 fn2 v2 v3 v4 q0 v5 v6 = some r ∧ f 1 = (.d (.int .i64 p1)) ∧ f 2 = (.fn g_fn2 p_fn2 q_fn2) ∧ f 6 = (.ptr (st.length + 0) 0) ∧ f 7 = (.ptr (st.length + 1) 0) ∧ f 9 = (.ptr (st.length + 2) 0) ∧ f 10 = (.d (.sl (List.map TS.row p0))) ∧ f 11 = (.d (.int .i64 (p0.length : Int))) ∧ f 12 = (.d (.int .i64 v4)) ∧ f 20 = (.d (.bool v6)) ∧ st' = st ++ [(.box [(.d (.int .i64 (0 : Int))), (.d (.int .i64 (0 : Int)))]), (.box [(.d (.int .i64 v2)), (.d (.int .i64 v3))]), (.box [(.d (.int .i64 v5.Op)), (.d (.str v5.Name)), (.d (.str v5.Src)), (.d (.int .i64 v5.N)), (.d (.sl (List.map rS v5.Cols))), (.d (.sl (List.map TE.row v5.Exprs))), (.d (.sl (List.map TS.row v5.Body))), (.d (.sl (List.map TS.row v5.Else)))])]) ?_ ?_
   · refine Af ?_
     unfold Lt
     refine AJ (Ar (e_t (Ad rfl h7)) O5 AM) ?_
     refine Pc (⟨v2, v3⟩ : T_Ssize) rfl ((Am rfl 1).trans rfl) ?_
     refine Ab (e_t eh) ?_
     refine Au eh hr (fun hr => ?_) (fun hr => ?_)
     · refine Ag eh (Ag (em rfl eh) (An (e_t (Ac rfl eh)) e_c (Aa (Ae ?_))))
       exact ⟨true, hr, (Ak rfl (Ac rfl h1)), (Ak rfl (Ac rfl h2)), (Ak rfl (Ac rfl h6)), (Ak rfl (Ac rfl h7)), (Ad rfl (Ac rfl eh)), (Ak rfl (Ac rfl h10)), (Ak rfl (Ac rfl h11)), (Ak rfl (Ac rfl h12)), eh, rfl⟩
     refine Ai eh (Ab (e_t (Ad rfl (Ac rfl (em rfl h1)))) (Ai (em rfl eh) ?_))
     refine As (e_t eh) e_c (Ei ?_)
     refine Ao (e_t (Ac rfl eh)) (e_t eh) (Aa (Ae ?_))
     exact ⟨(decide ((1000 : Int) ≤ p1)), hr, (Ak rfl (Ac rfl h1)), (Ak rfl (Ac rfl h2)), (Ak rfl (Ac rfl h6)), (Ak rfl (Ac rfl h7)), (Ad rfl (Ac rfl eh)), (Ak rfl (Ac rfl h10)), (Ak rfl (Ac rfl h11)), (Ak rfl (Ac rfl h12)), eh, rfl⟩
   rintro f st' ⟨v6, hr, h1, h2, h6, h7, h9, h10, h11, h12, h20, rfl⟩
   rw [FF] at hr
   refine AC (e_t h20) hr (fun hr => ?_) (fun hr => ?_)
   · refine Al (Af ?_)
     unfold Mg
     refine II (cs := [(.d (.int .i64 (1000 : Int))), (.d (.int .i64 (1000 : Int)))]) (Co e_c A0 rfl (Nat.le_of_ble_eq_true rfl) (by exact rfl) (Co e_c A0 rfl (Nat.le_of_ble_eq_true rfl) (by exact rfl) KW)) (Cm e_c A0 (by exact rfl) (Cm e_c A0 (by exact rfl) KQ)) ?_
     refine Bl (e_t (em rfl h6)) ((Am rfl 0).trans rfl) (e_t eh) Bf rfl (Nat.le_of_ble_eq_true rfl) (by exact rfl) (cells' := [(.d (.int .i64 (1000 : Int))), (.d (.int .i64 (1000 : Int)))]) (by exact rfl) (Bo rfl _ _) ?_
     refine Aa (Ae (AI (AA ?_)))
     refine BH ?_
     refine AA (AA ?_)
     refine BH ?_
     refine AA ?_
     cases hr
     exact A7 (G9 (em rfl h6) ((Am rfl 0).trans rfl) (Nat.le_of_ble_eq_true rfl) (by exact rfl) AH) (AN (Bx (Aq f_d (Aq f_d B3))) (XW rfl)) (Ay hwf) h
   refine AO (Ae (Af ?_))
   unfold LU
   refine Ab (e_t h2) ?_
   refine Bw (e_t (em rfl h9)) ((Am rfl 2).trans rfl) (Nat.le_of_ble_eq_true rfl) (by exact rfl) ?_
   refine Ab (e_t (Ac rfl h1)) ?_
   obtain ⟨v7, hc_v7, hr⟩ := bind_some hr
   refine Aw7 (e_t (Ac rfl eh)) (Ar (e_t (em rfl eh)) (Bx (Aq f_d (Aq f_d (Aq f_d (Aq f_d (Aq f_d (Aq f_d (Aq f_d (Aq f_d B3))))))))) (Ar (e_t eh) AF AM)) rfl ?_
   refine H_fn2 v5 p1 hc_v7 ?_
   refine AJ (Ar (e_t (Ad rfl h7)) O5 (Ar (e_t eh) (Bx (Aq f_d (Aq f_d B3))) AM)) ?_
   refine Nv (⟨v2, v3⟩ : T_Ssize) v7 rfl ((Am rfl 1).trans rfl) (Bo rfl _ _) ?_
   refine Aa ?_
   refine BB ?_
   refine Ae (Af ?_)
   unfold LI
   refine As (e_t (Ad rfl (em rfl h12))) e_c (BU ?_)
   refine Ab (e_t eh) (Aa (Ae ?_))
   exact ⟨m_0, _, Nat.lt_succ_self m_0, Ghost.cut _ (st.length + 2) (Nat.le_add_right _ _), (A8 (⟨v2, v3⟩ : T_Ssize) v7).nodes, (A8 (⟨v2, v3⟩ : T_Ssize) v7).depth, (IntKind.wrap .i64 (v4 + (1 : Int))), (by rw [hrec_0]; exact hr), ((congrArg (cutV _) (Ad rfl (Ac rfl (em rfl h1)))).trans (v_d)), ((congrArg (cutV _) (Ad rfl (Ac rfl (em rfl h2)))).trans (AG7 (B_fn2 _))), ((congrArg (cutV _) (Ad rfl (Ac rfl (em rfl h6)))).trans (by simp [cutV, AK])), ((congrArg (cutV _) (Ad rfl (Ac rfl (em rfl h7)))).trans (by simp [cutV, AK])), ((congrArg (cutV _) (Ad rfl (Ac rfl (em rfl h10)))).trans (v_d)), ((congrArg (cutV _) (Ad rfl (Ac rfl (em rfl h11)))).trans (v_d)), ((congrArg (cutV _) eh).trans (v_d)), (EN (l0 := [(.box [(.d (.int .i64 (0 : Int))), (.d (.int .i64 (0 : Int)))]), (.box [(.d (.int .i64 ((A8 (⟨v2, v3⟩ : T_Ssize) v7).nodes))), (.d (.int .i64 ((A8 (⟨v2, v3⟩ : T_Ssize) v7).depth)))])]) (l1 := _) hwf rfl rfl rfl)⟩
def FA (p1 : Int) (fn2 : TE → Int → Option T_Ssize) (v2 : Int) (v3 : Int) (v4 : Int) (q0 : Int → Int → Int → Option T_Ssize) (v5 : TE) (v6 : Bool) : Option T_Ssize :=
 (bif v6 then some (⟨(1000 : Int), (1000 : Int)⟩ : T_Ssize) else ((fn2 v5 p1).bind fun v7 => q0 ((A8 (⟨v2, v3⟩ : T_Ssize) v7).nodes) ((A8 (⟨v2, v3⟩ : T_Ssize) v7).depth) (IntKind.wrap .i64 (v4 + (1 : Int)))))
def Gx (p0 : (List TE)) (p1 : Int) (fn2 : TE → Int → Option T_Ssize) (q0 : Int → Int → Int → Option T_Ssize) (v2 : Int) (v3 : Int) (v4 : Int) : Option T_Ssize :=
 (bif (decide (v4 < (p0.length : Int))) then ((Dd p0 v4).bind fun v5 => (bif (Cg (⟨v2, v3⟩ : T_Ssize)) then (FA p1 fn2 v2 v3 v4 q0 v5 true) else (FA p1 fn2 v2 v3 v4 q0 v5 (decide ((1000 : Int) ≤ p1))))) else some (⟨v2, v3⟩ : T_Ssize))
def Ck (p0 : (List TE)) (p1 : Int) (fn2 : TE → Int → Option T_Ssize) : Nat → Int → Int → Int → Option T_Ssize
 | 0, _, _, _ => none
 | m + 1, v2, v3, v4 => Gx p0 p1 fn2 (Ck p0 p1 fn2 m) v2 v3 v4
def FM (n : Nat) (p0 : (List TE)) (p1 : Int) (fn2 : TE → Int → Option T_Ssize) : Option T_Ssize :=
 (Ck p0 p1 fn2 n (0 : Int) (0 : Int) (0 : Int))
set_option maxRecDepth 100000 in
set_option maxHeartbeats 4000000 in
theorem PG (n : Nat) (p0 : (List TE)) (p1 : Int) (fn2 : TE → Int → Option T_Ssize) {g_fn2 : FuncId} {p_fn2 q_fn2 : List PV} (H_fn2 : ∀ (a0 : TE) (a1 : Int) {r : T_Ssize}, fn2 a0 a1 = some r → ∀ {st : List Content} {K : PV → List Content → Prop}, K (.agg [(.d (.int .i64 r.nodes)), (.d (.int .i64 r.depth))]) st → Av PR g_fn2 (p_fn2 ++ [(.agg [(.d (.int .i64 a0.Op)), (.d (.int .i64 a0.N)), (.d (.str a0.S)), (.d (.str a0.Name)), (.d (.str a0.Src)), (.d (.sl (List.map TE.row a0.Args)))]), (.d (.int .i64 a1))] ++ q_fn2) st K) (B_fn2 : ∀ n, (AK.belowL n p_fn2 && AK.belowL n q_fn2) = true) {r : T_Ssize} (hr : FM n p0 p1 fn2 = some r) {K : PV → List Content → Prop} (h : K (.agg [(.d (.int .i64 r.nodes)), (.d (.int .i64 r.depth))]) st) : Av PR IL [(.d (.sl (List.map TE.row p0))), (.d (.int .i64 p1)), (.fn g_fn2 p_fn2 q_fn2)] st K := by
 refine Av.of Yi (Nat.le_of_ble_eq_true rfl) fun hwf => ?_
 rw [Yk]
 refine AQ ?_
 unfold PJ
 rw [FM] at hr
 refine Al (Af ?_)
 unfold Lx
 refine Cn (k := 0) rfl rfl ?_
 refine Aa (Ae (Al (Af ?_)))
 unfold LH
 refine Cn (k := 1) rfl rfl ?_
 refine Aa (Ae (Al (Al (Af ?_))))
 unfold Mt
 refine Ab (e_t (Ac rfl eh)) ?_
 refine Bh (row := TE.row) (AP (e_t eh) Bt) ?_
 refine Ab e_c (Aa (Ae ?_))
 refine AT ?_
 refine BX (fun m f st' => ∃ (v2 : Int), ∃ (v3 : Int), ∃ (v4 : Int), Ck p0 p1 fn2 m v2 v3 v4 = some r ∧ f 1 = (.d (.int .i64 p1)) ∧ f 2 = (.fn g_fn2 p_fn2 q_fn2) ∧ f 6 = (.ptr (st.length + 0) 0) ∧ f 7 = (.ptr (st.length + 1) 0) ∧ f 10 = (.d (.sl (List.map TE.row p0))) ∧ f 11 = (.d (.int .i64 (p0.length : Int))) ∧ f 12 = (.d (.int .i64 v4)) ∧ st' = st ++ [(.box [(.d (.int .i64 (0 : Int))), (.d (.int .i64 (0 : Int)))]), (.box [(.d (.int .i64 v2)), (.d (.int .i64 v3))])]) n (Ghost.refl _) ⟨(0 : Int), (0 : Int), (0 : Int), hr, (Ad rfl (Ac rfl eh)), (Ad rfl (Ac rfl (em rfl eh))), (Ad rfl eh), (Ac rfl (em rfl eh)), (Ac rfl eh), (em rfl eh), eh, rfl⟩ ?_
 rintro m f st' ⟨v2, v3, v4, hr, h1, h2, h6, h7, h10, h11, h12, rfl⟩
 cases m with
 | zero => cases hr
 | succ m_0 =>
   rw [Ck] at hr
   generalize hrec_0 : Ck p0 p1 fn2 m_0 = q0 at hr
   rw [Gx] at hr
   unfold LR
   refine Al (Af ?_)
   unfold LQ
   refine As (e_t h12) (e_t h11) (CM ?_)
   refine Aa (Ae (Al ?_))
   refine AC (e_t eh) hr (fun hr => ?_) (fun hr => ?_)
   rotate_left
   · refine CG ?_
     refine AW ?_
     refine AW ?_
     refine DF ?_
     refine Ae (Al (Af ?_))
     unfold K6
     refine Bw (e_t (em rfl h7)) ((Am rfl 1).trans rfl) (Nat.le_of_ble_eq_true rfl) (by exact rfl) ?_
     refine Bl (e_t (Ac rfl h6)) ((Am rfl 0).trans rfl) (e_t eh) Bf rfl (Nat.le_of_ble_eq_true rfl) (by exact rfl) (cells' := [(.d (.int .i64 v2)), (.d (.int .i64 v3))]) (by exact rfl) (Bo rfl _ _) ?_
     refine Aa (Ae (AI ?_))
     cases hr
     exact A7 (G9 (Ac rfl h6) ((Am rfl 0).trans rfl) (Nat.le_of_ble_eq_true rfl) (by exact rfl) AH) (AN (Bx (Aq f_d (Aq f_d B3))) (XW rfl)) (Ay hwf) h
   refine AO (Ae (Al ?_))
   refine AT ?_
   refine Al (Af ?_)
   unfold L7
   refine Br (row := TE.row) (AP (e_t (em rfl h10)) Bt) (e_t (em rfl h12)) hr TE.row_eq (fun _ => rfl) (fun v5 hr => ?_)
   refine Dc (e_t eh) (Nat.le_of_ble_eq_true rfl) (by exact rfl) ?_
   refine Cn (k := 2) rfl rfl ?_
   refine Bl (e_t eh) ((Am rfl 2).trans rfl) (e_t (em rfl eh)) Bf rfl (Nat.le_of_ble_eq_true rfl) (by exact rfl) (cells' := [(.d (.int .i64 v5.Op)), (.d (.int .i64 v5.N)), (.d (.str v5.S)), (.d (.str v5.Name)), (.d (.str v5.Src)), (.d (.sl (List.map TE.row v5.Args)))]) (by exact rfl) (Bo rfl _ _) ?_
   refine Aa (Ae (Al ?_))
   refine By (fun f st' => ∃ (v6 : Bool), FA p1 fn2 v2 v3 v4 q0 v5 v6 = some r ∧ f 1 = (.d (.int .i64 p1)) ∧ f 2 = (.fn g_fn2 p_fn2 q_fn2) ∧ f 6 = (.ptr (st.length + 0) 0) ∧ f 7 = (.ptr (st.length + 1) 0) ∧ f 9 = (.ptr (st.length + 2) 0) ∧ f 10 = (.d (.sl (List.map TE.row p0))) ∧ f 11 = (.d (.int .i64 (p0.length : Int))) ∧ f 12 = (.d (.int .i64 v4)) ∧ f 20 = (.d (.bool v6)) ∧ st' = st ++ [(.box [(.d (.int .i64 (0 : Int))), (.d (.int .i64 (0 : Int)))]), (.box [(.d (.int .i64 v2)), (.d (.int .i64 v3))]), (.box [(.d (.int .i64 v5.Op)), (.d (.int .i64 v5.N)), (.d (.str v5.S)), (.d (.str v5.Name)), (.d (.str v5.Src)), (.d (.sl (List.map TE.row v5.Args)))])]) ?_ ?_
   · refine Af ?_
     unfold Mm
     refine AJ (Ar (e_t (Ad rfl h7)) O5 AM) ?_
     refine Pc (⟨v2, v3⟩ : T_Ssize) rfl ((Am rfl 1).trans rfl) ?_
     refine Ab (e_t eh) ?_
     refine Au eh hr (fun hr => ?_) (fun hr => ?_)
     · refine Ag eh (Ag (em rfl eh) (An (e_t (Ac rfl eh)) e_c (Aa (Ae ?_))))
       exact ⟨true, hr, (Ak rfl (Ac rfl h1)), (Ak rfl (Ac rfl h2)), (Ak rfl (Ac rfl h6)), (Ak rfl (Ac rfl h7)), (Ad rfl (Ac rfl eh)), (Ak rfl (Ac rfl h10)), (Ak rfl (Ac rfl h11)), (Ak rfl (Ac rfl h12)), eh, rfl⟩
     refine Ai eh (Ab (e_t (Ad rfl (Ac rfl (em rfl h1)))) (Ai (em rfl eh) ?_))
     refine As (e_t eh) e_c (Ei ?_)
     refine Ao (e_t (Ac rfl eh)) (e_t eh) (Aa (Ae ?_))
     exact ⟨(decide ((1000 : Int) ≤ p1)), hr, (Ak rfl (Ac rfl h1)), (Ak rfl (Ac rfl h2)), (Ak rfl (Ac rfl h6)), (Ak rfl (Ac rfl h7)), (Ad rfl (Ac rfl eh)), (Ak rfl (Ac rfl h10)), (Ak rfl (Ac rfl h11)), (Ak rfl (Ac rfl h12)), eh, rfl⟩
   rintro f st' ⟨v6, hr, h1, h2, h6, h7, h9, h10, h11, h12, h20, rfl⟩
   rw [FA] at hr
   refine AC (e_t h20) hr (fun hr => ?_) (fun hr => ?_)
   · refine Al (Af ?_)
     unfold L5
     refine II (cs := [(.d (.int .i64 (1000 : Int))), (.d (.int .i64 (1000 : Int)))]) (Co e_c A0 rfl (Nat.le_of_ble_eq_true rfl) (by exact rfl) (Co e_c A0 rfl (Nat.le_of_ble_eq_true rfl) (by exact rfl) KW)) (Cm e_c A0 (by exact rfl) (Cm e_c A0 (by exact rfl) KQ)) ?_
     refine Bl (e_t (em rfl h6)) ((Am rfl 0).trans rfl) (e_t eh) Bf rfl (Nat.le_of_ble_eq_true rfl) (by exact rfl) (cells' := [(.d (.int .i64 (1000 : Int))), (.d (.int .i64 (1000 : Int)))]) (by exact rfl) (Bo rfl _ _) ?_
     refine Aa (Ae (AI (AA ?_)))
     refine BH ?_
     refine AA (AA ?_)
     refine BH ?_
     refine AA ?_
     cases hr
     exact A7 (G9 (em rfl h6) ((Am rfl 0).trans rfl) (Nat.le_of_ble_eq_true rfl) (by exact rfl) AH) (AN (Bx (Aq f_d (Aq f_d B3))) (XW rfl)) (Ay hwf) h
   refine AO (Ae (Af ?_))
   unfold LD
   refine Ab (e_t h2) ?_
   refine Bw (e_t (em rfl h9)) ((Am rfl 2).trans rfl) (Nat.le_of_ble_eq_true rfl) (by exact rfl) ?_
   refine Ab (e_t (Ac rfl h1)) ?_
   obtain ⟨v7, hc_v7, hr⟩ := bind_some hr
   refine Aw7 (e_t (Ac rfl eh)) (Ar (e_t (em rfl eh)) (Bx (Aq f_d (Aq f_d (Aq f_d (Aq f_d (Aq f_d (Aq f_d B3))))))) (Ar (e_t eh) AF AM)) rfl ?_
   refine H_fn2 v5 p1 hc_v7 ?_
   refine AJ (Ar (e_t (Ad rfl h7)) O5 (Ar (e_t eh) (Bx (Aq f_d (Aq f_d B3))) AM)) ?_
   refine Nv (⟨v2, v3⟩ : T_Ssize) v7 rfl ((Am rfl 1).trans rfl) (Bo rfl _ _) ?_
   refine Aa ?_
   refine BB ?_
   refine Ae (Af ?_)
   unfold Mv
   refine As (e_t (Ad rfl (em rfl h12))) e_c (BU ?_)
   refine Ab (e_t eh) (Aa (Ae ?_))
   exact ⟨m_0, _, Nat.lt_succ_self m_0, Ghost.cut _ (st.length + 2) (Nat.le_add_right _ _), (A8 (⟨v2, v3⟩ : T_Ssize) v7).nodes, (A8 (⟨v2, v3⟩ : T_Ssize) v7).depth, (IntKind.wrap .i64 (v4 + (1 : Int))), (by rw [hrec_0]; exact hr), ((congrArg (cutV _) (Ad rfl (Ac rfl (em rfl h1)))).trans (v_d)), ((congrArg (cutV _) (Ad rfl (Ac rfl (em rfl h2)))).trans (AG7 (B_fn2 _))), ((congrArg (cutV _) (Ad rfl (Ac rfl (em rfl h6)))).trans (by simp [cutV, AK])), ((congrArg (cutV _) (Ad rfl (Ac rfl (em rfl h7)))).trans (by simp [cutV, AK])), ((congrArg (cutV _) (Ad rfl (Ac rfl (em rfl h10)))).trans (v_d)), ((congrArg (cutV _) (Ad rfl (Ac rfl (em rfl h11)))).trans (v_d)), ((congrArg (cutV _) eh).trans (v_d)), (EN (l0 := [(.box [(.d (.int .i64 (0 : Int))), (.d (.int .i64 (0 : Int)))]), (.box [(.d (.int .i64 ((A8 (⟨v2, v3⟩ : T_Ssize) v7).nodes))), (.d (.int .i64 ((A8 (⟨v2, v3⟩ : T_Ssize) v7).depth)))])]) (l1 := _) hwf rfl rfl rfl)⟩
def Jw (p0 : T_Ssize) : T_Ssize :=
 (⟨(min (IntKind.wrap .i64 (p0.nodes + (1 : Int))) (1000 : Int)), (min (IntKind.wrap .i64 (p0.depth + (1 : Int))) (1000 : Int))⟩ : T_Ssize)
set_option maxRecDepth 100000 in
set_option maxHeartbeats 4000000 in
theorem AE3 (p0 : T_Ssize) {r : T_Ssize} (hr : Jw p0 = r) {K : PV → List Content → Prop} (h : K (.agg [(.d (.int .i64 r.nodes)), (.d (.int .i64 r.depth))]) st) : Av PR Ym [(.agg [(.d (.int .i64 p0.nodes)), (.d (.int .i64 p0.depth))])] st K := by
 refine Av.of AV4 (Nat.le_of_ble_eq_true rfl) fun hwf => ?_
 rw [B5]
 refine AQ ?_
 unfold AE9
 rw [Jw] at hr
 refine Al (Af ?_)
 unfold Zw
 refine Gq (k := 0) rfl rfl (e_t eh) Bf (by exact rfl) ?_
 refine Cn (k := 1) rfl rfl ?_
 refine Aa (Ae (Al (Af ?_)))
 unfold ZX
 refine AB (e_t (em rfl eh)) (by exact rfl) ?_
 refine Ap (e_t eh) ((Am rfl 0).trans rfl) (by exact rfl) ?_
 refine As (e_t eh) e_c (BU ?_)
 refine Ze (e_t eh) (AG3 e_c (RD ?_))
 refine AB (e_t (Ad rfl (em rfl eh))) (by exact rfl) ?_
 refine Ap (e_t eh) ((Am rfl 0).trans rfl) (by exact rfl) ?_
 refine As (e_t eh) e_c (BU ?_)
 refine Ze (e_t eh) (AG3 e_c (RD ?_))
 refine II (cs := [(.d (.int .i64 (min (IntKind.wrap .i64 (p0.nodes + (1 : Int))) (1000 : Int)))), (.d (.int .i64 (min (IntKind.wrap .i64 (p0.depth + (1 : Int))) (1000 : Int))))]) (Co (e_t (Ad rfl eh)) A0 rfl (Nat.le_of_ble_eq_true rfl) (by exact rfl) (Co (e_t eh) A0 rfl (Nat.le_of_ble_eq_true rfl) (by exact rfl) KW)) (Cm (e_t (Ad rfl eh)) A0 (by exact rfl) (Cm (e_t eh) A0 (by exact rfl) KQ)) ?_
 refine Bl (e_t (Ak rfl (em rfl eh))) ((Am rfl 1).trans rfl) (e_t eh) Bf rfl (Nat.le_of_ble_eq_true rfl) (by exact rfl) (cells' := [(.d (.int .i64 (min (IntKind.wrap .i64 (p0.nodes + (1 : Int))) (1000 : Int)))), (.d (.int .i64 (min (IntKind.wrap .i64 (p0.depth + (1 : Int))) (1000 : Int))))]) (by exact rfl) (Bo rfl _ _) ?_
 refine Aa (Ae (AI ?_))
 subst hr
 exact A7 (G9 (Ak rfl (em rfl eh)) ((Am rfl 1).trans rfl) (Nat.le_of_ble_eq_true rfl) (by exact rfl) AH) (AN (Bx (Aq f_d (Aq f_d B3))) (XW rfl)) (Ay hwf) h
def Kq (s_SsizeExpr : TE → Int → Option T_Ssize) (n : Nat) (p0 : TE) (p1 : Int) : Option T_Ssize :=
 ((FM n p0.Args (IntKind.wrap .i64 (p1 + (1 : Int))) (fun (a0 : TE) (a1 : Int) => s_SsizeExpr a0 a1)).bind fun v2 => some (Jw v2))
set_option maxRecDepth 100000 in
set_option maxHeartbeats 4000000 in
theorem Ao7 (s_SsizeExpr : TE → Int → Option T_Ssize) (n : Nat) (p0 : TE) (p1 : Int) (H_s_SsizeExpr : ∀ (p0 : TE) (p1 : Int) {r : T_Ssize}, s_SsizeExpr p0 p1 = some r → ∀ {st : List Content} {K : PV → List Content → Prop} (h : K (.agg [(.d (.int .i64 r.nodes)), (.d (.int .i64 r.depth))]) st), Av PR HD [(.agg [(.d (.int .i64 p0.Op)), (.d (.int .i64 p0.N)), (.d (.str p0.S)), (.d (.str p0.Name)), (.d (.str p0.Src)), (.d (.sl (List.map TE.row p0.Args)))]), (.d (.int .i64 p1))] st K) {r : T_Ssize} (hr : Kq s_SsizeExpr n p0 p1 = some r) {K : PV → List Content → Prop} (h : K (.agg [(.d (.int .i64 r.nodes)), (.d (.int .i64 r.depth))]) st) : Av PR HD [(.agg [(.d (.int .i64 p0.Op)), (.d (.int .i64 p0.N)), (.d (.str p0.S)), (.d (.str p0.Name)), (.d (.str p0.Src)), (.d (.sl (List.map TE.row p0.Args)))]), (.d (.int .i64 p1))] st K := by
 refine Av.of Ax9 (Nat.le_of_ble_eq_true rfl) fun hwf => ?_
 rw [Ed]
 refine AQ ?_
 unfold Xo
 rw [Kq] at hr
 refine Al (Af ?_)
 unfold Q2
 refine Gq (k := 0) rfl rfl (e_t eh) Bf (by exact rfl) ?_
 refine Cn (k := 1) rfl rfl ?_
 refine Aa (Ae (Al (Af ?_)))
 unfold RA
 refine AB (e_t (em rfl eh)) (by exact rfl) ?_
 refine Ap (e_t eh) ((Am rfl 0).trans rfl) (by exact rfl) ?_
 refine Ab (e_t (Ad rfl (em rfl eh))) ?_
 refine As (e_t eh) e_c (BU ?_)
 obtain ⟨v2, hc_v2, hr⟩ := bind_some hr
 refine AJ (Ar (e_t (Ac rfl eh)) AF (Ar (e_t eh) AF (Ar e_c K7 AM))) ?_
 refine PG n p0.Args (IntKind.wrap .i64 (p1 + (1 : Int))) (fun (a0 : TE) (a1 : Int) => s_SsizeExpr a0 a1) (fun a0 a1 {_} hr {_ _} hk => H_s_SsizeExpr a0 a1 hr hk) (fun _ => rfl) hc_v2 ?_
 refine AJ (Ar (e_t eh) (Bx (Aq f_d (Aq f_d B3))) AM) ?_
 refine AE3 v2 rfl ?_
 refine Bl (e_t (Ad rfl (Ac rfl eh))) ((Am rfl 1).trans rfl) (e_t eh) Bf rfl (Nat.le_of_ble_eq_true rfl) (by exact rfl) (cells' := [(.d (.int .i64 ((Jw v2).nodes))), (.d (.int .i64 ((Jw v2).depth)))]) (by exact rfl) (Bo rfl _ _) ?_
 refine Aa (Ae (AI ?_))
 cases hr
 exact A7 (G9 (Ad rfl (Ac rfl eh)) ((Am rfl 1).trans rfl) (Nat.le_of_ble_eq_true rfl) (by exact rfl) AH) (AN (Bx (Aq f_d (Aq f_d B3))) (XW rfl)) (Ay hwf) h
def C3 : Nat → TE → Int → Option T_Ssize
 | 0, _, _ => none
 | n + 1, p0, p1 => Kq (C3 n) n p0 p1
theorem VX : ∀ n : Nat, (∀ (p0 : TE) (p1 : Int) {r : T_Ssize}, C3 n p0 p1 = some r → ∀ {st : List Content} {K : PV → List Content → Prop} (h : K (.agg [(.d (.int .i64 r.nodes)), (.d (.int .i64 r.depth))]) st), Av PR HD [(.agg [(.d (.int .i64 p0.Op)), (.d (.int .i64 p0.N)), (.d (.str p0.S)), (.d (.str p0.Name)), (.d (.str p0.Src)), (.d (.sl (List.map TE.row p0.Args)))]), (.d (.int .i64 p1))] st K)
 | 0 => fun _ _ _ hr => (by rw [C3] at hr; cases hr)
 | n + 1 => fun p0 p1 _ hr _ _ h => Ao7 (C3 n) n p0 p1 (VX n) (by rw [C3] at hr; exact hr) h
theorem As0 (n : Nat) (p0 : TE) (p1 : Int) {r : T_Ssize} (hr : C3 n p0 p1 = some r) {K : PV → List Content → Prop} (h : K (.agg [(.d (.int .i64 r.nodes)), (.d (.int .i64 r.depth))]) st) : Av PR HD [(.agg [(.d (.int .i64 p0.Op)), (.d (.int .i64 p0.N)), (.d (.str p0.S)), (.d (.str p0.Name)), (.d (.str p0.Src)), (.d (.sl (List.map TE.row p0.Args)))]), (.d (.int .i64 p1))] st K := (VX n) p0 p1 hr h
end Go.Ax
