import Derived.Test.YtojkpenjeglipaaYT
import Derived.Test.YtojkpenjeglipaaVX
import Derived.Test.YtojkpenjeglipaaPrim
set_option linter.unusedVariables false
set_option linter.unusedSimpArgs false
namespace Go.Ax
attribute [local irreducible] xexec xops xpre xrun xacc thenX inBlockX RetK XLoop upd ev u0 frzA frz asRows binK mmD bnd okAll fillP fillOk rowsOf toDs frz1 pack cutV tokC tokArgs
variable {st : List Content}

def d_syntax_size_full (p0 : T_syntax_size) : Bool :=
  (bif (decide ((1000 : Int) ≤ p0.nodes)) then true else (decide ((1000 : Int) ≤ p0.depth)))
set_option maxRecDepth 100000 in
set_option maxHeartbeats 4000000 in
theorem c_syntax_size_full (p0 : T_syntax_size) {r : Bool} (hr : d_syntax_size_full p0 = r) {x0 : Nat} (hx_x0 : st[x0]? = some (.box [(.d (.int .i64 p0.nodes)), (.d (.int .i64 p0.depth))])) {K : PV → List Content → Prop} (h : K (.d (.bool r)) st) : ACalls PR n_syntax_size_full [(.ptr x0 0)] st K := by
  refine ACalls.of F_syntax_size_full (Nat.le_of_ble_eq_true rfl) fun hwf => ?_
  rw [args0_1]
  refine entry_nil ?_
  unfold x_syntax_size_full
  rw [d_syntax_size_full] at hr
  refine x_seq ?_
  refine x_region ?_
  unfold x_syntax_size_full_r0
  refine o_move e_c ?_
  refine run_nil ?_
  refine k_then ?_
  refine x_seq ?_
  refine x_region ?_
  unfold x_syntax_size_full_r1
  refine run_app ?_
  unfold x_syntax_size_full_r1s0
  refine o_move (e_t (e_miss rfl e_hit)) ?_
  refine o_nilc (e_t e_hit) ?_
  refine o_fa (e_t e_hit) (by exact rfl) ?_
  refine o_load (e_t e_hit) (g_old hx_x0) (by exact rfl) ?_
  refine o_bin (e_t e_hit) e_c (b_geqL ?_)
  refine o_move (e_t e_hit) ?_
  refine g_splitL e_hit hr (fun hr => ?_) (fun hr => ?_)
  · refine g_skip e_hit ?_
    refine g_skip (e_miss rfl e_hit) ?_
    refine g_skip (e_m2 rfl e_hit) ?_
    refine g_skip (e_m2 rfl (e_miss rfl e_hit)) ?_
    refine g_skip (e_m4 rfl e_hit) ?_
    refine o_pick_t (e_t (e_m4 rfl (e_miss rfl e_hit))) e_c ?_
    refine run_nil ?_
    unfold x_syntax_size_full_r1s1
    refine o_move (e_t e_hit) ?_
    refine run_nil ?_
    refine k_then ?_
    refine x_ret ?_
    subst hr
    exact retK (r_tmp e_hit r_nil) (p_one fz_d v_d) (cutS_wf hwf) h
  refine g_run e_hit ?_
  refine o_move (e_t (e_m4 rfl (e_m4 rfl e_hit))) ?_
  refine g_run (e_miss rfl e_hit) ?_
  refine o_nilc (e_t e_hit) ?_
  refine g_run (e_m2 rfl e_hit) ?_
  refine o_fa (e_t e_hit) (by exact rfl) ?_
  refine g_run (e_m2 rfl (e_miss rfl e_hit)) ?_
  refine o_load (e_t e_hit) (g_old hx_x0) (by exact rfl) ?_
  refine g_run (e_m4 rfl e_hit) ?_
  refine o_bin (e_t e_hit) e_c (b_geqL ?_)
  refine o_pick_f (e_t (e_m4 rfl (e_miss rfl e_hit))) (e_t e_hit) ?_
  refine run_nil ?_
  unfold x_syntax_size_full_r1s1
  refine o_move (e_t e_hit) ?_
  refine run_nil ?_
  refine k_then ?_
  refine x_ret ?_
  subst hr
  exact retK (r_tmp e_hit r_nil) (p_one fz_d v_d) (cutS_wf hwf) h

def d_syntax_size_add (p0 : T_syntax_size) (p1 : T_syntax_size) : T_syntax_size :=
  (⟨(min (IntKind.wrap .i64 (p0.nodes + p1.nodes)) (1000 : Int)), (max p0.depth p1.depth)⟩ : T_syntax_size)
set_option maxRecDepth 100000 in
set_option maxHeartbeats 4000000 in
theorem c_syntax_size_add (p0 : T_syntax_size) (p1 : T_syntax_size) {r : T_syntax_size} (hr : d_syntax_size_add p0 p1 = r) {x0 : Nat} (hx_x0 : st[x0]? = some (.box [(.d (.int .i64 p0.nodes)), (.d (.int .i64 p0.depth))])) {st' : List Content} (hst : (List.set st x0 (.box [(.d (.int .i64 r.nodes)), (.d (.int .i64 r.depth))])) = st') {K : PV → List Content → Prop} (h : K (.tup []) st') : ACalls PR n_syntax_size_add [(.ptr x0 0), (.agg [(.d (.int .i64 p1.nodes)), (.d (.int .i64 p1.depth))])] st K := by
  subst hst
  refine ACalls.of F_syntax_size_add (Nat.le_of_ble_eq_true rfl) fun hwf => ?_
  rw [args0_2]
  refine entry_nil ?_
  unfold x_syntax_size_add
  rw [d_syntax_size_add] at hr
  refine x_seq ?_
  refine x_region ?_
  unfold x_syntax_size_add_r0
  refine o_box (k := 0) rfl rfl (e_t (e_miss rfl e_hit)) pc_agg (by exact rfl) ?_
  refine run_nil ?_
  refine k_then ?_
  refine x_regionD (k := 1) rfl rfl ?_
  unfold x_syntax_size_add_r1
  refine acc_of_run (R := []) rfl rfl (o_move (e_t (e_miss rfl e_hit)) (run_nil ?_))
  refine acc_of_run (R := []) rfl rfl (o_move (e_t (e_m2 rfl e_hit)) (run_nil ?_))
  refine acc_of_run (R := []) rfl rfl (o_move (e_t (e_m2 rfl (e_miss rfl e_hit))) (run_nil ?_))
  refine acc_of_run (R := []) rfl rfl (o_nilc (e_t e_hit) (run_nil ?_))
  refine acc_of_run (R := []) rfl rfl (o_fa (e_t e_hit) (by exact rfl) (run_nil ?_))
  refine acc_of_run rfl (rd_load (e_t e_hit)) (o_load (e_t e_hit) (g_old hx_x0) (by exact rfl) (run_nil ?_))
  refine acc_of_run (R := []) rfl rfl (o_fa (e_t (e_m4 rfl (e_m2 rfl e_hit))) (by exact rfl) (run_nil ?_))
  refine acc_of_run rfl (rd_load (e_t e_hit)) (o_load (e_t e_hit) ((g_ext rfl 0).trans rfl) (by exact rfl) (run_nil ?_))
  refine acc_of_run (R := []) rfl rfl (o_bin (e_t (e_m2 rfl e_hit)) (e_t e_hit) (b_add (run_nil ?_)))
  refine acc_of_run (R := []) rfl rfl (o_mm (e_t e_hit) (m_min e_c (m_nil (run_nil ?_))))
  refine acc_of_run (R := []) rfl rfl (o_move (e_t (e_m4 rfl (e_m4 rfl (e_m2 rfl (e_miss rfl e_hit))))) (run_nil ?_))
  refine acc_of_run (R := []) rfl rfl (o_nilc (e_t e_hit) (run_nil ?_))
  refine acc_of_run (R := []) rfl rfl (o_fa (e_t e_hit) (by exact rfl) (run_nil ?_))
  refine acc_of_run rfl (rd_load (e_t e_hit)) (o_load (e_t e_hit) (g_old hx_x0) (by exact rfl) (run_nil ?_))
  refine acc_of_run (R := []) rfl rfl (o_fa (e_t (e_m4 rfl (e_m4 rfl (e_m4 rfl (e_m2 rfl e_hit))))) (by exact rfl) (run_nil ?_))
  refine acc_of_run rfl (rd_load (e_t e_hit)) (o_load (e_t e_hit) ((g_ext rfl 0).trans rfl) (by exact rfl) (run_nil ?_))
  refine acc_of_run (R := []) rfl rfl (o_mm (e_t (e_m2 rfl e_hit)) (m_max (e_t e_hit) (m_nil (run_nil ?_))))
  refine acc_of_run (R := []) rfl rfl (o_nilc (e_t (e_m4 rfl (e_m4 rfl (e_m4 rfl (e_m4 rfl e_hit))))) (run_nil ?_))
  refine acc_of_run (R := []) rfl rfl (o_fa (e_t e_hit) (by exact rfl) (run_nil ?_))
  refine p_store (e_t e_hit) (g_old hx_x0) (e_t (e_m4 rfl (e_m4 rfl (e_miss rfl e_hit)))) pc_d rfl (Nat.le_of_ble_eq_true rfl) (by exact rfl) (cells' := [(.d (.int .i64 (min (IntKind.wrap .i64 (p0.nodes + p1.nodes)) (1000 : Int)))), (.d (.int .i64 p0.depth))]) (by exact rfl) ((s_old hx_x0).trans (congrArg (· ++ _) rfl)) ?_
  refine acc_of_run (R := []) rfl rfl (o_nilc (e_t (e_m4 rfl (e_m4 rfl (e_m4 rfl (e_m4 rfl (e_miss rfl e_hit)))))) (run_nil ?_))
  refine acc_of_run (R := []) rfl rfl (o_fa (e_t e_hit) (by exact rfl) (run_nil ?_))
  refine p_store (e_t e_hit) (g_old (get_set_same hx_x0)) (e_t (e_m4 rfl e_hit)) pc_d rfl (Nat.le_of_ble_eq_true rfl) (by exact rfl) (cells' := [(.d (.int .i64 (min (IntKind.wrap .i64 (p0.nodes + p1.nodes)) (1000 : Int)))), (.d (.int .i64 (max p0.depth p1.depth)))]) (by exact rfl) ((s_old (get_set_same hx_x0)).trans (congrArg (· ++ _) set_last)) ?_
  refine runA_nil ?_
  refine ⟨by simp [okAll, okPairs, ancAt, Disj, ne_l1 hx_x0, ne_l2 hx_x0, ne_l3 hx_x0, ne_l4 hx_x0], ?_⟩
  subst hr
  exact retK_n r_nil p_nil (cutS_of (WF.setBox hwf rfl) (len_set rfl)) h

def d_syntax_all_api_Stmt_j0 (p1 : Int) (fn2 : T_api_Stmt → Int → Option T_syntax_size) (v2 : Int) (v3 : Int) (v4 : Int) (rec_l_0 : Int → Int → Int → Option T_syntax_size) (v5 : T_api_Stmt) (v6 : Bool) : Option T_syntax_size :=
  (bif v6 then some (⟨(1000 : Int), (1000 : Int)⟩ : T_syntax_size) else ((fn2 v5 p1).bind fun v7 => rec_l_0 ((d_syntax_size_add (⟨v2, v3⟩ : T_syntax_size) v7).nodes) ((d_syntax_size_add (⟨v2, v3⟩ : T_syntax_size) v7).depth) (IntKind.wrap .i64 (v4 + (1 : Int)))))
def d_syntax_all_api_Stmt_l0b (p0 : (List T_api_Stmt)) (p1 : Int) (fn2 : T_api_Stmt → Int → Option T_syntax_size) (rec_l_0 : Int → Int → Int → Option T_syntax_size) (v2 : Int) (v3 : Int) (v4 : Int) : Option T_syntax_size :=
  (bif (decide (v4 < (p0.length : Int))) then ((idxL p0 v4).bind fun v5 => (bif (d_syntax_size_full (⟨v2, v3⟩ : T_syntax_size)) then (d_syntax_all_api_Stmt_j0 p1 fn2 v2 v3 v4 rec_l_0 v5 true) else (d_syntax_all_api_Stmt_j0 p1 fn2 v2 v3 v4 rec_l_0 v5 (decide ((1000 : Int) ≤ p1))))) else some (⟨v2, v3⟩ : T_syntax_size))
def d_syntax_all_api_Stmt_l0 (p0 : (List T_api_Stmt)) (p1 : Int) (fn2 : T_api_Stmt → Int → Option T_syntax_size) : Nat → Int → Int → Int → Option T_syntax_size
  | 0, _, _, _ => none
  | m + 1, v2, v3, v4 => d_syntax_all_api_Stmt_l0b p0 p1 fn2 (d_syntax_all_api_Stmt_l0 p0 p1 fn2 m) v2 v3 v4
def d_syntax_all_api_Stmt (n : Nat) (p0 : (List T_api_Stmt)) (p1 : Int) (fn2 : T_api_Stmt → Int → Option T_syntax_size) : Option T_syntax_size :=
  (d_syntax_all_api_Stmt_l0 p0 p1 fn2 n (0 : Int) (0 : Int) (0 : Int))
set_option maxRecDepth 100000 in
set_option maxHeartbeats 4000000 in
theorem c_syntax_all_api_Stmt (n : Nat) (p0 : (List T_api_Stmt)) (p1 : Int) (fn2 : T_api_Stmt → Int → Option T_syntax_size) {g_fn2 : FuncId} {p_fn2 q_fn2 : List PV} (H_fn2 : ∀ (a0 : T_api_Stmt) (a1 : Int) {r : T_syntax_size}, fn2 a0 a1 = some r → ∀ {st : List Content} {K : PV → List Content → Prop}, K (.agg [(.d (.int .i64 r.nodes)), (.d (.int .i64 r.depth))]) st → ACalls PR g_fn2 (p_fn2 ++ [(.agg [(.d (.int .i64 a0.Op)), (.d (.str a0.Name)), (.d (.str a0.Src)), (.d (.int .i64 a0.N)), (.d (.sl (List.map rS a0.Cols))), (.d (.sl (List.map T_api_Expr.row a0.Exprs))), (.d (.sl (List.map T_api_Stmt.row a0.Body))), (.d (.sl (List.map T_api_Stmt.row a0.Else)))]), (.d (.int .i64 a1))] ++ q_fn2) st K) (B_fn2 : ∀ n, (belowB.belowL n p_fn2 && belowB.belowL n q_fn2) = true) {r : T_syntax_size} (hr : d_syntax_all_api_Stmt n p0 p1 fn2 = some r) {K : PV → List Content → Prop} (h : K (.agg [(.d (.int .i64 r.nodes)), (.d (.int .i64 r.depth))]) st) : ACalls PR n_syntax_all_api_Stmt [(.d (.sl (List.map T_api_Stmt.row p0))), (.d (.int .i64 p1)), (.fn g_fn2 p_fn2 q_fn2)] st K := by
  refine ACalls.of F_syntax_all_api_Stmt (Nat.le_of_ble_eq_true rfl) fun hwf => ?_
  rw [args0_3]
  refine entry_nil ?_
  unfold x_syntax_all_api_Stmt
  rw [d_syntax_all_api_Stmt] at hr
  refine x_seq ?_
  refine x_region ?_
  unfold x_syntax_all_api_Stmt_r0
  refine o_alloc (k := 0) rfl rfl ?_
  refine run_nil ?_
  refine k_then ?_
  refine x_seq ?_
  refine x_region ?_
  unfold x_syntax_all_api_Stmt_r1
  refine o_alloc (k := 1) rfl rfl ?_
  refine run_nil ?_
  refine k_then ?_
  refine x_seq ?_
  refine x_seq ?_
  refine x_region ?_
  unfold x_syntax_all_api_Stmt_r2
  refine o_move (e_t (e_m2 rfl e_hit)) ?_
  refine o_lenL (row := T_api_Stmt.row) (ar_of (e_t e_hit) ar_d) ?_
  refine o_move e_c ?_
  refine run_nil ?_
  refine k_then ?_
  refine x_block ?_
  refine x_loopL (fun m f st' => ∃ (v2 : Int), ∃ (v3 : Int), ∃ (v4 : Int), d_syntax_all_api_Stmt_l0 p0 p1 fn2 m v2 v3 v4 = some r ∧ f 1 = (.d (.int .i64 p1)) ∧ f 2 = (.fn g_fn2 p_fn2 q_fn2) ∧ f 6 = (.ptr (st.length + 0) 0) ∧ f 7 = (.ptr (st.length + 1) 0) ∧ f 10 = (.d (.sl (List.map T_api_Stmt.row p0))) ∧ f 11 = (.d (.int .i64 (p0.length : Int))) ∧ f 12 = (.d (.int .i64 v4)) ∧ st' = st ++ [(.box [(.d (.int .i64 (0 : Int))), (.d (.int .i64 (0 : Int)))]), (.box [(.d (.int .i64 v2)), (.d (.int .i64 v3))])]) n (Ghost.refl _) ⟨(0 : Int), (0 : Int), (0 : Int), hr, (e_m4 rfl (e_m2 rfl e_hit)), (e_m4 rfl (e_m2 rfl (e_miss rfl e_hit))), (e_m4 rfl e_hit), (e_m2 rfl (e_miss rfl e_hit)), (e_m2 rfl e_hit), (e_miss rfl e_hit), e_hit, rfl⟩ ?_
  rintro m f st' ⟨v2, v3, v4, hr, h1, h2, h6, h7, h10, h11, h12, rfl⟩
  cases m with
  | zero => cases hr
  | succ m_0 =>
    rw [d_syntax_all_api_Stmt_l0] at hr
    generalize hrec_0 : d_syntax_all_api_Stmt_l0 p0 p1 fn2 m_0 = rec_l_0 at hr
    rw [d_syntax_all_api_Stmt_l0b] at hr
    unfold x_syntax_all_api_Stmt_l9
    refine x_seq ?_
    refine x_region ?_
    unfold x_syntax_all_api_Stmt_r3
    refine o_bin (e_t h12) (e_t h11) (b_lss ?_)
    refine run_nil ?_
    refine k_then ?_
    refine x_seq ?_
    refine x_condL (e_t e_hit) hr (fun hr => ?_) (fun hr => ?_)
    rotate_left
    · refine x_exit ?_
      refine k_thenE ?_
      refine k_thenE ?_
      refine k_inE ?_
      refine k_then ?_
      refine x_seq ?_
      refine x_region ?_
      unfold x_syntax_all_api_Stmt_r10
      refine o_loadA (e_t (e_miss rfl h7)) ((g_ext rfl 1).trans rfl) (Nat.le_of_ble_eq_true rfl) (by exact rfl) ?_
      refine o_store (e_t (e_m2 rfl h6)) ((g_ext rfl 0).trans rfl) (e_t e_hit) pc_agg rfl (Nat.le_of_ble_eq_true rfl) (by exact rfl) (cells' := [(.d (.int .i64 v2)), (.d (.int .i64 v3))]) (by exact rfl) (s_ext rfl _ _) ?_
      refine run_nil ?_
      refine k_then ?_
      refine x_ret ?_
      cases hr
      exact retK (r_cellA (e_m2 rfl h6) ((g_ext rfl 0).trans rfl) (Nat.le_of_ble_eq_true rfl) (by exact rfl) r_nil) (p_one (fz_agg (f_cons f_d (f_cons f_d f_nil))) (v_agg rfl)) (cutS_wf hwf) h
    refine x_skip ?_
    refine k_then ?_
    refine x_seq ?_
    refine x_block ?_
    refine x_seq ?_
    refine x_region ?_
    unfold x_syntax_all_api_Stmt_r4
    refine o_idxL (row := T_api_Stmt.row) (ar_of (e_t (e_miss rfl h10)) ar_d) (e_t (e_miss rfl h12)) hr T_api_Stmt.row_eq (fun _ => rfl) (fun v5 hr => ?_)
    refine o_loadDA (e_t e_hit) (Nat.le_of_ble_eq_true rfl) (by exact rfl) ?_
    refine o_alloc (k := 2) rfl rfl ?_
    refine o_store (e_t e_hit) ((g_ext rfl 2).trans rfl) (e_t (e_miss rfl e_hit)) pc_agg rfl (Nat.le_of_ble_eq_true rfl) (by exact rfl) (cells' := [(.d (.int .i64 v5.Op)), (.d (.str v5.Name)), (.d (.str v5.Src)), (.d (.int .i64 v5.N)), (.d (.sl (List.map rS v5.Cols))), (.d (.sl (List.map T_api_Expr.row v5.Exprs))), (.d (.sl (List.map T_api_Stmt.row v5.Body))), (.d (.sl (List.map T_api_Stmt.row v5.Else)))]) (by exact rfl) (s_ext rfl _ _) ?_
    refine run_nil ?_
    refine k_then ?_
    refine x_seq ?_
    refine x_join (fun f st' => ∃ (v6 : Bool), d_syntax_all_api_Stmt_j0 p1 fn2 v2 v3 v4 rec_l_0 v5 v6 = some r ∧ f 1 = (.d (.int .i64 p1)) ∧ f 2 = (.fn g_fn2 p_fn2 q_fn2) ∧ f 6 = (.ptr (st.length + 0) 0) ∧ f 7 = (.ptr (st.length + 1) 0) ∧ f 9 = (.ptr (st.length + 2) 0) ∧ f 10 = (.d (.sl (List.map T_api_Stmt.row p0))) ∧ f 11 = (.d (.int .i64 (p0.length : Int))) ∧ f 12 = (.d (.int .i64 v4)) ∧ f 20 = (.d (.bool v6)) ∧ st' = st ++ [(.box [(.d (.int .i64 (0 : Int))), (.d (.int .i64 (0 : Int)))]), (.box [(.d (.int .i64 v2)), (.d (.int .i64 v3))]), (.box [(.d (.int .i64 v5.Op)), (.d (.str v5.Name)), (.d (.str v5.Src)), (.d (.int .i64 v5.N)), (.d (.sl (List.map rS v5.Cols))), (.d (.sl (List.map T_api_Expr.row v5.Exprs))), (.d (.sl (List.map T_api_Stmt.row v5.Body))), (.d (.sl (List.map T_api_Stmt.row v5.Else)))])]) ?_ ?_
    · refine x_region ?_
      unfold x_syntax_all_api_Stmt_r5
      refine o_call (a_cons (e_t (e_m4 rfl h7)) fz_ptr a_nil) ?_
      refine c_syntax_size_full (⟨v2, v3⟩ : T_syntax_size) rfl ((g_ext rfl 1).trans rfl) ?_
      refine o_move (e_t e_hit) ?_
      refine g_splitL e_hit hr (fun hr => ?_) (fun hr => ?_)
      · refine g_skip e_hit ?_
        refine g_skip (e_miss rfl e_hit) ?_
        refine o_pick_t (e_t (e_m2 rfl e_hit)) e_c ?_
        refine run_nil ?_
        refine k_then ?_
        exact ⟨true, hr, (e_m4 rfl (e_m4 rfl (e_m2 rfl h1))), (e_m4 rfl (e_m4 rfl (e_m2 rfl h2))), (e_m4 rfl (e_m4 rfl (e_m2 rfl h6))), (e_m4 rfl (e_m4 rfl (e_m2 rfl h7))), (e_m4 rfl (e_m2 rfl e_hit)), (e_m4 rfl (e_m4 rfl (e_m2 rfl h10))), (e_m4 rfl (e_m4 rfl (e_m2 rfl h11))), (e_m4 rfl (e_m4 rfl (e_m2 rfl h12))), e_hit, rfl⟩
      refine g_run e_hit ?_
      refine o_move (e_t (e_m4 rfl (e_m2 rfl (e_miss rfl h1)))) ?_
      refine g_run (e_miss rfl e_hit) ?_
      refine o_bin (e_t e_hit) e_c (b_geqL ?_)
      refine o_pick_f (e_t (e_m2 rfl e_hit)) (e_t e_hit) ?_
      refine run_nil ?_
      refine k_then ?_
      exact ⟨(decide ((1000 : Int) ≤ p1)), hr, (e_m4 rfl (e_m4 rfl (e_m2 rfl h1))), (e_m4 rfl (e_m4 rfl (e_m2 rfl h2))), (e_m4 rfl (e_m4 rfl (e_m2 rfl h6))), (e_m4 rfl (e_m4 rfl (e_m2 rfl h7))), (e_m4 rfl (e_m2 rfl e_hit)), (e_m4 rfl (e_m4 rfl (e_m2 rfl h10))), (e_m4 rfl (e_m4 rfl (e_m2 rfl h11))), (e_m4 rfl (e_m4 rfl (e_m2 rfl h12))), e_hit, rfl⟩
    rintro f st' ⟨v6, hr, h1, h2, h6, h7, h9, h10, h11, h12, h20, rfl⟩
    rw [d_syntax_all_api_Stmt_j0] at hr
    refine x_condL (e_t h20) hr (fun hr => ?_) (fun hr => ?_)
    · refine x_seq ?_
      refine x_region ?_
      unfold x_syntax_all_api_Stmt_r6
      refine o_build (cs := [(.d (.int .i64 (1000 : Int))), (.d (.int .i64 (1000 : Int)))]) (fo_cons e_c pc_d rfl (Nat.le_of_ble_eq_true rfl) (by exact rfl) (fo_cons e_c pc_d rfl (Nat.le_of_ble_eq_true rfl) (by exact rfl) fo_nil)) (fp_cons e_c pc_d (by exact rfl) (fp_cons e_c pc_d (by exact rfl) fp_nil)) ?_
      refine o_store (e_t (e_miss rfl h6)) ((g_ext rfl 0).trans rfl) (e_t e_hit) pc_agg rfl (Nat.le_of_ble_eq_true rfl) (by exact rfl) (cells' := [(.d (.int .i64 (1000 : Int))), (.d (.int .i64 (1000 : Int)))]) (by exact rfl) (s_ext rfl _ _) ?_
      refine run_nil ?_
      refine k_then ?_
      refine x_ret ?_
      refine k_thenR ?_
      refine k_inR ?_
      refine k_thenR ?_
      refine k_thenR ?_
      refine k_inR ?_
      refine k_thenR ?_
      cases hr
      exact retK (r_cellA (e_miss rfl h6) ((g_ext rfl 0).trans rfl) (Nat.le_of_ble_eq_true rfl) (by exact rfl) r_nil) (p_one (fz_agg (f_cons f_d (f_cons f_d f_nil))) (v_agg rfl)) (cutS_wf hwf) h
    refine x_skip ?_
    refine k_then ?_
    refine x_region ?_
    unfold x_syntax_all_api_Stmt_r7
    refine o_move (e_t h2) ?_
    refine o_loadA (e_t (e_miss rfl h9)) ((g_ext rfl 2).trans rfl) (Nat.le_of_ble_eq_true rfl) (by exact rfl) ?_
    refine o_move (e_t (e_m2 rfl h1)) ?_
    obtain ⟨v7, hc_v7, hr⟩ := bind_some hr
    refine o_dyn (e_t (e_m2 rfl e_hit)) (a_cons (e_t (e_miss rfl e_hit)) (fz_agg (f_cons f_d (f_cons f_d (f_cons f_d (f_cons f_d (f_cons f_d (f_cons f_d (f_cons f_d (f_cons f_d f_nil))))))))) (a_cons (e_t e_hit) fz_d a_nil)) rfl ?_
    refine H_fn2 v5 p1 hc_v7 ?_
    refine o_call (a_cons (e_t (e_m4 rfl h7)) fz_ptr (a_cons (e_t e_hit) (fz_agg (f_cons f_d (f_cons f_d f_nil))) a_nil)) ?_
    refine c_syntax_size_add (⟨v2, v3⟩ : T_syntax_size) v7 rfl ((g_ext rfl 1).trans rfl) (s_ext rfl _ _) ?_
    refine run_nil ?_
    refine k_inN ?_
    refine k_then ?_
    refine x_region ?_
    unfold x_syntax_all_api_Stmt_r8
    refine o_bin (e_t (e_m4 rfl (e_miss rfl h12))) e_c (b_add ?_)
    refine o_move (e_t e_hit) ?_
    refine run_nil ?_
    refine k_then ?_
    exact ⟨m_0, _, Nat.lt_succ_self m_0, Ghost.cut _ (st.length + 2) (Nat.le_add_right _ _), (d_syntax_size_add (⟨v2, v3⟩ : T_syntax_size) v7).nodes, (d_syntax_size_add (⟨v2, v3⟩ : T_syntax_size) v7).depth, (IntKind.wrap .i64 (v4 + (1 : Int))), (by rw [hrec_0]; exact hr), ((congrArg (cutV _) (e_m4 rfl (e_m2 rfl (e_miss rfl h1)))).trans (v_d)), ((congrArg (cutV _) (e_m4 rfl (e_m2 rfl (e_miss rfl h2)))).trans (cutv_fn (B_fn2 _))), ((congrArg (cutV _) (e_m4 rfl (e_m2 rfl (e_miss rfl h6)))).trans (by simp [cutV, belowB])), ((congrArg (cutV _) (e_m4 rfl (e_m2 rfl (e_miss rfl h7)))).trans (by simp [cutV, belowB])), ((congrArg (cutV _) (e_m4 rfl (e_m2 rfl (e_miss rfl h10)))).trans (v_d)), ((congrArg (cutV _) (e_m4 rfl (e_m2 rfl (e_miss rfl h11)))).trans (v_d)), ((congrArg (cutV _) e_hit).trans (v_d)), (cut_keep (l0 := [(.box [(.d (.int .i64 (0 : Int))), (.d (.int .i64 (0 : Int)))]), (.box [(.d (.int .i64 ((d_syntax_size_add (⟨v2, v3⟩ : T_syntax_size) v7).nodes))), (.d (.int .i64 ((d_syntax_size_add (⟨v2, v3⟩ : T_syntax_size) v7).depth)))])]) (l1 := _) hwf rfl rfl rfl)⟩

def d_syntax_all_api_Expr_j0 (p1 : Int) (fn2 : T_api_Expr → Int → Option T_syntax_size) (v2 : Int) (v3 : Int) (v4 : Int) (rec_l_0 : Int → Int → Int → Option T_syntax_size) (v5 : T_api_Expr) (v6 : Bool) : Option T_syntax_size :=
  (bif v6 then some (⟨(1000 : Int), (1000 : Int)⟩ : T_syntax_size) else ((fn2 v5 p1).bind fun v7 => rec_l_0 ((d_syntax_size_add (⟨v2, v3⟩ : T_syntax_size) v7).nodes) ((d_syntax_size_add (⟨v2, v3⟩ : T_syntax_size) v7).depth) (IntKind.wrap .i64 (v4 + (1 : Int)))))
def d_syntax_all_api_Expr_l0b (p0 : (List T_api_Expr)) (p1 : Int) (fn2 : T_api_Expr → Int → Option T_syntax_size) (rec_l_0 : Int → Int → Int → Option T_syntax_size) (v2 : Int) (v3 : Int) (v4 : Int) : Option T_syntax_size :=
  (bif (decide (v4 < (p0.length : Int))) then ((idxL p0 v4).bind fun v5 => (bif (d_syntax_size_full (⟨v2, v3⟩ : T_syntax_size)) then (d_syntax_all_api_Expr_j0 p1 fn2 v2 v3 v4 rec_l_0 v5 true) else (d_syntax_all_api_Expr_j0 p1 fn2 v2 v3 v4 rec_l_0 v5 (decide ((1000 : Int) ≤ p1))))) else some (⟨v2, v3⟩ : T_syntax_size))
def d_syntax_all_api_Expr_l0 (p0 : (List T_api_Expr)) (p1 : Int) (fn2 : T_api_Expr → Int → Option T_syntax_size) : Nat → Int → Int → Int → Option T_syntax_size
  | 0, _, _, _ => none
  | m + 1, v2, v3, v4 => d_syntax_all_api_Expr_l0b p0 p1 fn2 (d_syntax_all_api_Expr_l0 p0 p1 fn2 m) v2 v3 v4
def d_syntax_all_api_Expr (n : Nat) (p0 : (List T_api_Expr)) (p1 : Int) (fn2 : T_api_Expr → Int → Option T_syntax_size) : Option T_syntax_size :=
  (d_syntax_all_api_Expr_l0 p0 p1 fn2 n (0 : Int) (0 : Int) (0 : Int))
set_option maxRecDepth 100000 in
set_option maxHeartbeats 4000000 in
theorem c_syntax_all_api_Expr (n : Nat) (p0 : (List T_api_Expr)) (p1 : Int) (fn2 : T_api_Expr → Int → Option T_syntax_size) {g_fn2 : FuncId} {p_fn2 q_fn2 : List PV} (H_fn2 : ∀ (a0 : T_api_Expr) (a1 : Int) {r : T_syntax_size}, fn2 a0 a1 = some r → ∀ {st : List Content} {K : PV → List Content → Prop}, K (.agg [(.d (.int .i64 r.nodes)), (.d (.int .i64 r.depth))]) st → ACalls PR g_fn2 (p_fn2 ++ [(.agg [(.d (.int .i64 a0.Op)), (.d (.int .i64 a0.N)), (.d (.str a0.S)), (.d (.str a0.Name)), (.d (.str a0.Src)), (.d (.sl (List.map T_api_Expr.row a0.Args)))]), (.d (.int .i64 a1))] ++ q_fn2) st K) (B_fn2 : ∀ n, (belowB.belowL n p_fn2 && belowB.belowL n q_fn2) = true) {r : T_syntax_size} (hr : d_syntax_all_api_Expr n p0 p1 fn2 = some r) {K : PV → List Content → Prop} (h : K (.agg [(.d (.int .i64 r.nodes)), (.d (.int .i64 r.depth))]) st) : ACalls PR n_syntax_all_api_Expr [(.d (.sl (List.map T_api_Expr.row p0))), (.d (.int .i64 p1)), (.fn g_fn2 p_fn2 q_fn2)] st K := by
  refine ACalls.of F_syntax_all_api_Expr (Nat.le_of_ble_eq_true rfl) fun hwf => ?_
  rw [args0_3]
  refine entry_nil ?_
  unfold x_syntax_all_api_Expr
  rw [d_syntax_all_api_Expr] at hr
  refine x_seq ?_
  refine x_region ?_
  unfold x_syntax_all_api_Expr_r0
  refine o_alloc (k := 0) rfl rfl ?_
  refine run_nil ?_
  refine k_then ?_
  refine x_seq ?_
  refine x_region ?_
  unfold x_syntax_all_api_Expr_r1
  refine o_alloc (k := 1) rfl rfl ?_
  refine run_nil ?_
  refine k_then ?_
  refine x_seq ?_
  refine x_seq ?_
  refine x_region ?_
  unfold x_syntax_all_api_Expr_r2
  refine o_move (e_t (e_m2 rfl e_hit)) ?_
  refine o_lenL (row := T_api_Expr.row) (ar_of (e_t e_hit) ar_d) ?_
  refine o_move e_c ?_
  refine run_nil ?_
  refine k_then ?_
  refine x_block ?_
  refine x_loopL (fun m f st' => ∃ (v2 : Int), ∃ (v3 : Int), ∃ (v4 : Int), d_syntax_all_api_Expr_l0 p0 p1 fn2 m v2 v3 v4 = some r ∧ f 1 = (.d (.int .i64 p1)) ∧ f 2 = (.fn g_fn2 p_fn2 q_fn2) ∧ f 6 = (.ptr (st.length + 0) 0) ∧ f 7 = (.ptr (st.length + 1) 0) ∧ f 10 = (.d (.sl (List.map T_api_Expr.row p0))) ∧ f 11 = (.d (.int .i64 (p0.length : Int))) ∧ f 12 = (.d (.int .i64 v4)) ∧ st' = st ++ [(.box [(.d (.int .i64 (0 : Int))), (.d (.int .i64 (0 : Int)))]), (.box [(.d (.int .i64 v2)), (.d (.int .i64 v3))])]) n (Ghost.refl _) ⟨(0 : Int), (0 : Int), (0 : Int), hr, (e_m4 rfl (e_m2 rfl e_hit)), (e_m4 rfl (e_m2 rfl (e_miss rfl e_hit))), (e_m4 rfl e_hit), (e_m2 rfl (e_miss rfl e_hit)), (e_m2 rfl e_hit), (e_miss rfl e_hit), e_hit, rfl⟩ ?_
  rintro m f st' ⟨v2, v3, v4, hr, h1, h2, h6, h7, h10, h11, h12, rfl⟩
  cases m with
  | zero => cases hr
  | succ m_0 =>
    rw [d_syntax_all_api_Expr_l0] at hr
    generalize hrec_0 : d_syntax_all_api_Expr_l0 p0 p1 fn2 m_0 = rec_l_0 at hr
    rw [d_syntax_all_api_Expr_l0b] at hr
    unfold x_syntax_all_api_Expr_l9
    refine x_seq ?_
    refine x_region ?_
    unfold x_syntax_all_api_Expr_r3
    refine o_bin (e_t h12) (e_t h11) (b_lss ?_)
    refine run_nil ?_
    refine k_then ?_
    refine x_seq ?_
    refine x_condL (e_t e_hit) hr (fun hr => ?_) (fun hr => ?_)
    rotate_left
    · refine x_exit ?_
      refine k_thenE ?_
      refine k_thenE ?_
      refine k_inE ?_
      refine k_then ?_
      refine x_seq ?_
      refine x_region ?_
      unfold x_syntax_all_api_Expr_r10
      refine o_loadA (e_t (e_miss rfl h7)) ((g_ext rfl 1).trans rfl) (Nat.le_of_ble_eq_true rfl) (by exact rfl) ?_
      refine o_store (e_t (e_m2 rfl h6)) ((g_ext rfl 0).trans rfl) (e_t e_hit) pc_agg rfl (Nat.le_of_ble_eq_true rfl) (by exact rfl) (cells' := [(.d (.int .i64 v2)), (.d (.int .i64 v3))]) (by exact rfl) (s_ext rfl _ _) ?_
      refine run_nil ?_
      refine k_then ?_
      refine x_ret ?_
      cases hr
      exact retK (r_cellA (e_m2 rfl h6) ((g_ext rfl 0).trans rfl) (Nat.le_of_ble_eq_true rfl) (by exact rfl) r_nil) (p_one (fz_agg (f_cons f_d (f_cons f_d f_nil))) (v_agg rfl)) (cutS_wf hwf) h
    refine x_skip ?_
    refine k_then ?_
    refine x_seq ?_
    refine x_block ?_
    refine x_seq ?_
    refine x_region ?_
    unfold x_syntax_all_api_Expr_r4
    refine o_idxL (row := T_api_Expr.row) (ar_of (e_t (e_miss rfl h10)) ar_d) (e_t (e_miss rfl h12)) hr T_api_Expr.row_eq (fun _ => rfl) (fun v5 hr => ?_)
    refine o_loadDA (e_t e_hit) (Nat.le_of_ble_eq_true rfl) (by exact rfl) ?_
    refine o_alloc (k := 2) rfl rfl ?_
    refine o_store (e_t e_hit) ((g_ext rfl 2).trans rfl) (e_t (e_miss rfl e_hit)) pc_agg rfl (Nat.le_of_ble_eq_true rfl) (by exact rfl) (cells' := [(.d (.int .i64 v5.Op)), (.d (.int .i64 v5.N)), (.d (.str v5.S)), (.d (.str v5.Name)), (.d (.str v5.Src)), (.d (.sl (List.map T_api_Expr.row v5.Args)))]) (by exact rfl) (s_ext rfl _ _) ?_
    refine run_nil ?_
    refine k_then ?_
    refine x_seq ?_
    refine x_join (fun f st' => ∃ (v6 : Bool), d_syntax_all_api_Expr_j0 p1 fn2 v2 v3 v4 rec_l_0 v5 v6 = some r ∧ f 1 = (.d (.int .i64 p1)) ∧ f 2 = (.fn g_fn2 p_fn2 q_fn2) ∧ f 6 = (.ptr (st.length + 0) 0) ∧ f 7 = (.ptr (st.length + 1) 0) ∧ f 9 = (.ptr (st.length + 2) 0) ∧ f 10 = (.d (.sl (List.map T_api_Expr.row p0))) ∧ f 11 = (.d (.int .i64 (p0.length : Int))) ∧ f 12 = (.d (.int .i64 v4)) ∧ f 20 = (.d (.bool v6)) ∧ st' = st ++ [(.box [(.d (.int .i64 (0 : Int))), (.d (.int .i64 (0 : Int)))]), (.box [(.d (.int .i64 v2)), (.d (.int .i64 v3))]), (.box [(.d (.int .i64 v5.Op)), (.d (.int .i64 v5.N)), (.d (.str v5.S)), (.d (.str v5.Name)), (.d (.str v5.Src)), (.d (.sl (List.map T_api_Expr.row v5.Args)))])]) ?_ ?_
    · refine x_region ?_
      unfold x_syntax_all_api_Expr_r5
      refine o_call (a_cons (e_t (e_m4 rfl h7)) fz_ptr a_nil) ?_
      refine c_syntax_size_full (⟨v2, v3⟩ : T_syntax_size) rfl ((g_ext rfl 1).trans rfl) ?_
      refine o_move (e_t e_hit) ?_
      refine g_splitL e_hit hr (fun hr => ?_) (fun hr => ?_)
      · refine g_skip e_hit ?_
        refine g_skip (e_miss rfl e_hit) ?_
        refine o_pick_t (e_t (e_m2 rfl e_hit)) e_c ?_
        refine run_nil ?_
        refine k_then ?_
        exact ⟨true, hr, (e_m4 rfl (e_m4 rfl (e_m2 rfl h1))), (e_m4 rfl (e_m4 rfl (e_m2 rfl h2))), (e_m4 rfl (e_m4 rfl (e_m2 rfl h6))), (e_m4 rfl (e_m4 rfl (e_m2 rfl h7))), (e_m4 rfl (e_m2 rfl e_hit)), (e_m4 rfl (e_m4 rfl (e_m2 rfl h10))), (e_m4 rfl (e_m4 rfl (e_m2 rfl h11))), (e_m4 rfl (e_m4 rfl (e_m2 rfl h12))), e_hit, rfl⟩
      refine g_run e_hit ?_
      refine o_move (e_t (e_m4 rfl (e_m2 rfl (e_miss rfl h1)))) ?_
      refine g_run (e_miss rfl e_hit) ?_
      refine o_bin (e_t e_hit) e_c (b_geqL ?_)
      refine o_pick_f (e_t (e_m2 rfl e_hit)) (e_t e_hit) ?_
      refine run_nil ?_
      refine k_then ?_
      exact ⟨(decide ((1000 : Int) ≤ p1)), hr, (e_m4 rfl (e_m4 rfl (e_m2 rfl h1))), (e_m4 rfl (e_m4 rfl (e_m2 rfl h2))), (e_m4 rfl (e_m4 rfl (e_m2 rfl h6))), (e_m4 rfl (e_m4 rfl (e_m2 rfl h7))), (e_m4 rfl (e_m2 rfl e_hit)), (e_m4 rfl (e_m4 rfl (e_m2 rfl h10))), (e_m4 rfl (e_m4 rfl (e_m2 rfl h11))), (e_m4 rfl (e_m4 rfl (e_m2 rfl h12))), e_hit, rfl⟩
    rintro f st' ⟨v6, hr, h1, h2, h6, h7, h9, h10, h11, h12, h20, rfl⟩
    rw [d_syntax_all_api_Expr_j0] at hr
    refine x_condL (e_t h20) hr (fun hr => ?_) (fun hr => ?_)
    · refine x_seq ?_
      refine x_region ?_
      unfold x_syntax_all_api_Expr_r6
      refine o_build (cs := [(.d (.int .i64 (1000 : Int))), (.d (.int .i64 (1000 : Int)))]) (fo_cons e_c pc_d rfl (Nat.le_of_ble_eq_true rfl) (by exact rfl) (fo_cons e_c pc_d rfl (Nat.le_of_ble_eq_true rfl) (by exact rfl) fo_nil)) (fp_cons e_c pc_d (by exact rfl) (fp_cons e_c pc_d (by exact rfl) fp_nil)) ?_
      refine o_store (e_t (e_miss rfl h6)) ((g_ext rfl 0).trans rfl) (e_t e_hit) pc_agg rfl (Nat.le_of_ble_eq_true rfl) (by exact rfl) (cells' := [(.d (.int .i64 (1000 : Int))), (.d (.int .i64 (1000 : Int)))]) (by exact rfl) (s_ext rfl _ _) ?_
      refine run_nil ?_
      refine k_then ?_
      refine x_ret ?_
      refine k_thenR ?_
      refine k_inR ?_
      refine k_thenR ?_
      refine k_thenR ?_
      refine k_inR ?_
      refine k_thenR ?_
      cases hr
      exact retK (r_cellA (e_miss rfl h6) ((g_ext rfl 0).trans rfl) (Nat.le_of_ble_eq_true rfl) (by exact rfl) r_nil) (p_one (fz_agg (f_cons f_d (f_cons f_d f_nil))) (v_agg rfl)) (cutS_wf hwf) h
    refine x_skip ?_
    refine k_then ?_
    refine x_region ?_
    unfold x_syntax_all_api_Expr_r7
    refine o_move (e_t h2) ?_
    refine o_loadA (e_t (e_miss rfl h9)) ((g_ext rfl 2).trans rfl) (Nat.le_of_ble_eq_true rfl) (by exact rfl) ?_
    refine o_move (e_t (e_m2 rfl h1)) ?_
    obtain ⟨v7, hc_v7, hr⟩ := bind_some hr
    refine o_dyn (e_t (e_m2 rfl e_hit)) (a_cons (e_t (e_miss rfl e_hit)) (fz_agg (f_cons f_d (f_cons f_d (f_cons f_d (f_cons f_d (f_cons f_d (f_cons f_d f_nil))))))) (a_cons (e_t e_hit) fz_d a_nil)) rfl ?_
    refine H_fn2 v5 p1 hc_v7 ?_
    refine o_call (a_cons (e_t (e_m4 rfl h7)) fz_ptr (a_cons (e_t e_hit) (fz_agg (f_cons f_d (f_cons f_d f_nil))) a_nil)) ?_
    refine c_syntax_size_add (⟨v2, v3⟩ : T_syntax_size) v7 rfl ((g_ext rfl 1).trans rfl) (s_ext rfl _ _) ?_
    refine run_nil ?_
    refine k_inN ?_
    refine k_then ?_
    refine x_region ?_
    unfold x_syntax_all_api_Expr_r8
    refine o_bin (e_t (e_m4 rfl (e_miss rfl h12))) e_c (b_add ?_)
    refine o_move (e_t e_hit) ?_
    refine run_nil ?_
    refine k_then ?_
    exact ⟨m_0, _, Nat.lt_succ_self m_0, Ghost.cut _ (st.length + 2) (Nat.le_add_right _ _), (d_syntax_size_add (⟨v2, v3⟩ : T_syntax_size) v7).nodes, (d_syntax_size_add (⟨v2, v3⟩ : T_syntax_size) v7).depth, (IntKind.wrap .i64 (v4 + (1 : Int))), (by rw [hrec_0]; exact hr), ((congrArg (cutV _) (e_m4 rfl (e_m2 rfl (e_miss rfl h1)))).trans (v_d)), ((congrArg (cutV _) (e_m4 rfl (e_m2 rfl (e_miss rfl h2)))).trans (cutv_fn (B_fn2 _))), ((congrArg (cutV _) (e_m4 rfl (e_m2 rfl (e_miss rfl h6)))).trans (by simp [cutV, belowB])), ((congrArg (cutV _) (e_m4 rfl (e_m2 rfl (e_miss rfl h7)))).trans (by simp [cutV, belowB])), ((congrArg (cutV _) (e_m4 rfl (e_m2 rfl (e_miss rfl h10)))).trans (v_d)), ((congrArg (cutV _) (e_m4 rfl (e_m2 rfl (e_miss rfl h11)))).trans (v_d)), ((congrArg (cutV _) e_hit).trans (v_d)), (cut_keep (l0 := [(.box [(.d (.int .i64 (0 : Int))), (.d (.int .i64 (0 : Int)))]), (.box [(.d (.int .i64 ((d_syntax_size_add (⟨v2, v3⟩ : T_syntax_size) v7).nodes))), (.d (.int .i64 ((d_syntax_size_add (⟨v2, v3⟩ : T_syntax_size) v7).depth)))])]) (l1 := _) hwf rfl rfl rfl)⟩

def d_syntax_over (p0 : T_syntax_size) : T_syntax_size :=
  (⟨(min (IntKind.wrap .i64 (p0.nodes + (1 : Int))) (1000 : Int)), (min (IntKind.wrap .i64 (p0.depth + (1 : Int))) (1000 : Int))⟩ : T_syntax_size)
set_option maxRecDepth 100000 in
set_option maxHeartbeats 4000000 in
theorem c_syntax_over (p0 : T_syntax_size) {r : T_syntax_size} (hr : d_syntax_over p0 = r) {K : PV → List Content → Prop} (h : K (.agg [(.d (.int .i64 r.nodes)), (.d (.int .i64 r.depth))]) st) : ACalls PR n_syntax_over [(.agg [(.d (.int .i64 p0.nodes)), (.d (.int .i64 p0.depth))])] st K := by
  refine ACalls.of F_syntax_over (Nat.le_of_ble_eq_true rfl) fun hwf => ?_
  rw [args0_1]
  refine entry_nil ?_
  unfold x_syntax_over
  rw [d_syntax_over] at hr
  refine x_seq ?_
  refine x_region ?_
  unfold x_syntax_over_r0
  refine o_box (k := 0) rfl rfl (e_t e_hit) pc_agg (by exact rfl) ?_
  refine o_alloc (k := 1) rfl rfl ?_
  refine run_nil ?_
  refine k_then ?_
  refine x_seq ?_
  refine x_region ?_
  unfold x_syntax_over_r1
  refine o_fa (e_t (e_miss rfl e_hit)) (by exact rfl) ?_
  refine o_load (e_t e_hit) ((g_ext rfl 0).trans rfl) (by exact rfl) ?_
  refine o_bin (e_t e_hit) e_c (b_add ?_)
  refine o_mm (e_t e_hit) (m_min e_c (m_nil ?_))
  refine o_fa (e_t (e_m4 rfl (e_miss rfl e_hit))) (by exact rfl) ?_
  refine o_load (e_t e_hit) ((g_ext rfl 0).trans rfl) (by exact rfl) ?_
  refine o_bin (e_t e_hit) e_c (b_add ?_)
  refine o_mm (e_t e_hit) (m_min e_c (m_nil ?_))
  refine o_build (cs := [(.d (.int .i64 (min (IntKind.wrap .i64 (p0.nodes + (1 : Int))) (1000 : Int)))), (.d (.int .i64 (min (IntKind.wrap .i64 (p0.depth + (1 : Int))) (1000 : Int))))]) (fo_cons (e_t (e_m4 rfl e_hit)) pc_d rfl (Nat.le_of_ble_eq_true rfl) (by exact rfl) (fo_cons (e_t e_hit) pc_d rfl (Nat.le_of_ble_eq_true rfl) (by exact rfl) fo_nil)) (fp_cons (e_t (e_m4 rfl e_hit)) pc_d (by exact rfl) (fp_cons (e_t e_hit) pc_d (by exact rfl) fp_nil)) ?_
  refine o_store (e_t (e_m4 rfl (e_m4 rfl (e_miss rfl e_hit)))) ((g_ext rfl 1).trans rfl) (e_t e_hit) pc_agg rfl (Nat.le_of_ble_eq_true rfl) (by exact rfl) (cells' := [(.d (.int .i64 (min (IntKind.wrap .i64 (p0.nodes + (1 : Int))) (1000 : Int)))), (.d (.int .i64 (min (IntKind.wrap .i64 (p0.depth + (1 : Int))) (1000 : Int))))]) (by exact rfl) (s_ext rfl _ _) ?_
  refine run_nil ?_
  refine k_then ?_
  refine x_ret ?_
  subst hr
  exact retK (r_cellA (e_m4 rfl (e_m4 rfl (e_miss rfl e_hit))) ((g_ext rfl 1).trans rfl) (Nat.le_of_ble_eq_true rfl) (by exact rfl) r_nil) (p_one (fz_agg (f_cons f_d (f_cons f_d f_nil))) (v_agg rfl)) (cutS_wf hwf) h

def d_syntax_sizeExpr_b (s_syntax_sizeExpr : T_api_Expr → Int → Option T_syntax_size) (n : Nat) (p0 : T_api_Expr) (p1 : Int) : Option T_syntax_size :=
  ((d_syntax_all_api_Expr n p0.Args (IntKind.wrap .i64 (p1 + (1 : Int))) (fun (a0 : T_api_Expr) (a1 : Int) => s_syntax_sizeExpr a0 a1)).bind fun v2 => some (d_syntax_over v2))
set_option maxRecDepth 100000 in
set_option maxHeartbeats 4000000 in
theorem cb_syntax_sizeExpr (s_syntax_sizeExpr : T_api_Expr → Int → Option T_syntax_size) (n : Nat) (p0 : T_api_Expr) (p1 : Int) (H_s_syntax_sizeExpr : ∀ (p0 : T_api_Expr) (p1 : Int) {r : T_syntax_size}, s_syntax_sizeExpr p0 p1 = some r → ∀ {st : List Content} {K : PV → List Content → Prop} (h : K (.agg [(.d (.int .i64 r.nodes)), (.d (.int .i64 r.depth))]) st), ACalls PR n_syntax_sizeExpr [(.agg [(.d (.int .i64 p0.Op)), (.d (.int .i64 p0.N)), (.d (.str p0.S)), (.d (.str p0.Name)), (.d (.str p0.Src)), (.d (.sl (List.map T_api_Expr.row p0.Args)))]), (.d (.int .i64 p1))] st K) {r : T_syntax_size} (hr : d_syntax_sizeExpr_b s_syntax_sizeExpr n p0 p1 = some r) {K : PV → List Content → Prop} (h : K (.agg [(.d (.int .i64 r.nodes)), (.d (.int .i64 r.depth))]) st) : ACalls PR n_syntax_sizeExpr [(.agg [(.d (.int .i64 p0.Op)), (.d (.int .i64 p0.N)), (.d (.str p0.S)), (.d (.str p0.Name)), (.d (.str p0.Src)), (.d (.sl (List.map T_api_Expr.row p0.Args)))]), (.d (.int .i64 p1))] st K := by
  refine ACalls.of F_syntax_sizeExpr (Nat.le_of_ble_eq_true rfl) fun hwf => ?_
  rw [args0_2]
  refine entry_nil ?_
  unfold x_syntax_sizeExpr
  rw [d_syntax_sizeExpr_b] at hr
  refine x_seq ?_
  refine x_region ?_
  unfold x_syntax_sizeExpr_r0
  refine o_box (k := 0) rfl rfl (e_t e_hit) pc_agg (by exact rfl) ?_
  refine o_alloc (k := 1) rfl rfl ?_
  refine run_nil ?_
  refine k_then ?_
  refine x_seq ?_
  refine x_region ?_
  unfold x_syntax_sizeExpr_r1
  refine o_fa (e_t (e_miss rfl e_hit)) (by exact rfl) ?_
  refine o_load (e_t e_hit) ((g_ext rfl 0).trans rfl) (by exact rfl) ?_
  refine o_move (e_t (e_m4 rfl (e_miss rfl e_hit))) ?_
  refine o_bin (e_t e_hit) e_c (b_add ?_)
  obtain ⟨v2, hc_v2, hr⟩ := bind_some hr
  refine o_call (a_cons (e_t (e_m2 rfl e_hit)) fz_d (a_cons (e_t e_hit) fz_d (a_cons e_c fz_fn a_nil))) ?_
  refine c_syntax_all_api_Expr n p0.Args (IntKind.wrap .i64 (p1 + (1 : Int))) (fun (a0 : T_api_Expr) (a1 : Int) => s_syntax_sizeExpr a0 a1) (fun a0 a1 {_} hr {_ _} hk => H_s_syntax_sizeExpr a0 a1 hr hk) (fun _ => rfl) hc_v2 ?_
  refine o_call (a_cons (e_t e_hit) (fz_agg (f_cons f_d (f_cons f_d f_nil))) a_nil) ?_
  refine c_syntax_over v2 rfl ?_
  refine o_store (e_t (e_m4 rfl (e_m2 rfl e_hit))) ((g_ext rfl 1).trans rfl) (e_t e_hit) pc_agg rfl (Nat.le_of_ble_eq_true rfl) (by exact rfl) (cells' := [(.d (.int .i64 ((d_syntax_over v2).nodes))), (.d (.int .i64 ((d_syntax_over v2).depth)))]) (by exact rfl) (s_ext rfl _ _) ?_
  refine run_nil ?_
  refine k_then ?_
  refine x_ret ?_
  cases hr
  exact retK (r_cellA (e_m4 rfl (e_m2 rfl e_hit)) ((g_ext rfl 1).trans rfl) (Nat.le_of_ble_eq_true rfl) (by exact rfl) r_nil) (p_one (fz_agg (f_cons f_d (f_cons f_d f_nil))) (v_agg rfl)) (cutS_wf hwf) h
def d_syntax_sizeExpr : Nat → T_api_Expr → Int → Option T_syntax_size
  | 0, _, _ => none
  | n + 1, p0, p1 => d_syntax_sizeExpr_b (d_syntax_sizeExpr n) n p0 p1
theorem cs_syntax_sizeExpr : ∀ n : Nat, (∀ (p0 : T_api_Expr) (p1 : Int) {r : T_syntax_size}, d_syntax_sizeExpr n p0 p1 = some r → ∀ {st : List Content} {K : PV → List Content → Prop} (h : K (.agg [(.d (.int .i64 r.nodes)), (.d (.int .i64 r.depth))]) st), ACalls PR n_syntax_sizeExpr [(.agg [(.d (.int .i64 p0.Op)), (.d (.int .i64 p0.N)), (.d (.str p0.S)), (.d (.str p0.Name)), (.d (.str p0.Src)), (.d (.sl (List.map T_api_Expr.row p0.Args)))]), (.d (.int .i64 p1))] st K)
  | 0 => fun _ _ _ hr => (by rw [d_syntax_sizeExpr] at hr; cases hr)
  | n + 1 => fun p0 p1 _ hr _ _ h => cb_syntax_sizeExpr (d_syntax_sizeExpr n) n p0 p1 (cs_syntax_sizeExpr n) (by rw [d_syntax_sizeExpr] at hr; exact hr) h
theorem c_syntax_sizeExpr (n : Nat) (p0 : T_api_Expr) (p1 : Int) {r : T_syntax_size} (hr : d_syntax_sizeExpr n p0 p1 = some r) {K : PV → List Content → Prop} (h : K (.agg [(.d (.int .i64 r.nodes)), (.d (.int .i64 r.depth))]) st) : ACalls PR n_syntax_sizeExpr [(.agg [(.d (.int .i64 p0.Op)), (.d (.int .i64 p0.N)), (.d (.str p0.S)), (.d (.str p0.Name)), (.d (.str p0.Src)), (.d (.sl (List.map T_api_Expr.row p0.Args)))]), (.d (.int .i64 p1))] st K := (cs_syntax_sizeExpr n) p0 p1 hr h
end Go.Ax
