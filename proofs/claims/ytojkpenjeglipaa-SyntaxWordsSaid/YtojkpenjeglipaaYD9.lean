import Derived.Test.YtojkpenjeglipaaYT
import Derived.Test.YtojkpenjeglipaaVX
import Derived.Test.YtojkpenjeglipaaPrim
import Derived.Test.YtojkpenjeglipaaYD7
import Derived.Test.YtojkpenjeglipaaYD8
set_option linter.unusedVariables false
set_option linter.unusedSimpArgs false
namespace Go.Ax
attribute [local irreducible] xexec xops xpre xrun xacc thenX inBlockX RetK XLoop upd ev u0 frzA frz asRows binK mmD bnd okAll fillP fillOk rowsOf toDs frz1 pack cutV tokC tokArgs
variable {st : List Content}

def d_syntax_uses_stmt_l0b (s_syntax_uses_stmt : (List ByteArray) → (List ByteArray) → (List ByteArray) → T_api_Stmt → Option ((List ByteArray) × (List ByteArray) × (List ByteArray))) (v19 : (List T_api_Stmt)) (rec_l_0 : (List ByteArray) → (List ByteArray) → (List ByteArray) → Int → Option ((List ByteArray) × (List ByteArray) × (List ByteArray))) (v20 : (List ByteArray)) (v21 : (List ByteArray)) (v22 : (List ByteArray)) (v23 : Int) : Option ((List ByteArray) × (List ByteArray) × (List ByteArray)) :=
  (bif (decide (v23 < (v19.length : Int))) then ((idxL v19 v23).bind fun v24 => ((s_syntax_uses_stmt v20 v21 v22 v24).bind fun v25 => rec_l_0 v25.1 v25.2.1 v25.2.2 (IntKind.wrap .i64 (v23 + (1 : Int))))) else some (v20, v21, v22))
def d_syntax_uses_stmt_l0 (s_syntax_uses_stmt : (List ByteArray) → (List ByteArray) → (List ByteArray) → T_api_Stmt → Option ((List ByteArray) × (List ByteArray) × (List ByteArray))) (v19 : (List T_api_Stmt)) : Nat → (List ByteArray) → (List ByteArray) → (List ByteArray) → Int → Option ((List ByteArray) × (List ByteArray) × (List ByteArray))
  | 0, _, _, _, _ => none
  | m + 1, v20, v21, v22, v23 => d_syntax_uses_stmt_l0b s_syntax_uses_stmt v19 (d_syntax_uses_stmt_l0 s_syntax_uses_stmt v19 m) v20 v21 v22 v23
def d_syntax_uses_stmt_j1 (p3 : T_api_Stmt) (s_syntax_uses_stmt : (List ByteArray) → (List ByteArray) → (List ByteArray) → T_api_Stmt → Option ((List ByteArray) × (List ByteArray) × (List ByteArray))) (n : Nat) (v11 : (List ByteArray)) (v12 : (List ByteArray)) (v17 : (List ByteArray)) : Option ((List ByteArray) × (List ByteArray) × (List ByteArray)) :=
  ((cloneL 144 p3.Body).bind fun v18 => ((appL 144 v18 p3.Else).bind fun v19 => (d_syntax_uses_stmt_l0 s_syntax_uses_stmt v19 n v17 v11 v12 (0 : Int))))
def d_syntax_uses_stmt_l1b (p3 : T_api_Stmt) (s_syntax_uses_stmt : (List ByteArray) → (List ByteArray) → (List ByteArray) → T_api_Stmt → Option ((List ByteArray) × (List ByteArray) × (List ByteArray))) (n : Nat) (v11 : (List ByteArray)) (v12 : (List ByteArray)) (rec_l_1 : (List ByteArray) → Int → Option ((List ByteArray) × (List ByteArray) × (List ByteArray))) (v13 : (List ByteArray)) (v14 : Int) : Option ((List ByteArray) × (List ByteArray) × (List ByteArray)) :=
  (bif (decide (v14 < (p3.Exprs.length : Int))) then ((idxL p3.Exprs v14).bind fun v15 => ((d_syntax_uses_expr n v13 v11 v12 v15).bind fun v16 => rec_l_1 v16 (IntKind.wrap .i64 (v14 + (1 : Int))))) else (d_syntax_uses_stmt_j1 p3 s_syntax_uses_stmt n v11 v12 v13))
def d_syntax_uses_stmt_l1 (p3 : T_api_Stmt) (s_syntax_uses_stmt : (List ByteArray) → (List ByteArray) → (List ByteArray) → T_api_Stmt → Option ((List ByteArray) × (List ByteArray) × (List ByteArray))) (n : Nat) (v11 : (List ByteArray)) (v12 : (List ByteArray)) : Nat → (List ByteArray) → Int → Option ((List ByteArray) × (List ByteArray) × (List ByteArray))
  | 0, _, _ => none
  | m + 1, v13, v14 => d_syntax_uses_stmt_l1b p3 s_syntax_uses_stmt n v11 v12 (d_syntax_uses_stmt_l1 p3 s_syntax_uses_stmt n v11 v12 m) v13 v14
def d_syntax_uses_stmt_j0 (p3 : T_api_Stmt) (s_syntax_uses_stmt : (List ByteArray) → (List ByteArray) → (List ByteArray) → T_api_Stmt → Option ((List ByteArray) × (List ByteArray) × (List ByteArray))) (n : Nat) (v10 : (List ByteArray)) (v11 : (List ByteArray)) (v12 : (List ByteArray)) : Option ((List ByteArray) × (List ByteArray) × (List ByteArray)) :=
  (d_syntax_uses_stmt_l1 p3 s_syntax_uses_stmt n v11 v12 n v10 (0 : Int))
def d_syntax_uses_stmt_j2 (p0 : (List ByteArray)) (p1 : (List ByteArray)) (p2 : (List ByteArray)) (p3 : T_api_Stmt) (s_syntax_uses_stmt : (List ByteArray) → (List ByteArray) → (List ByteArray) → T_api_Stmt → Option ((List ByteArray) × (List ByteArray) × (List ByteArray))) (n : Nat) (v4 : Bool) : Option ((List ByteArray) × (List ByteArray) × (List ByteArray)) :=
  (bif v4 then ((putM p0 p3.Src).bind fun v5 => ((putM p1 p3.Src).bind fun v6 => (d_syntax_uses_stmt_j0 p3 s_syntax_uses_stmt n v5 v6 p2))) else (bif (decide (p3.Op = (6 : Int))) then ((putM p0 p3.Src).bind fun v7 => (d_syntax_uses_stmt_j0 p3 s_syntax_uses_stmt n v7 p1 p2)) else (bif (decide (p3.Op = (3 : Int))) then ((putM p1 p3.Src).bind fun v8 => (d_syntax_uses_stmt_j0 p3 s_syntax_uses_stmt n p0 v8 p2)) else (bif (decide (p3.Op = (8 : Int))) then ((putM p2 p3.Src).bind fun v9 => (d_syntax_uses_stmt_j0 p3 s_syntax_uses_stmt n p0 p1 v9)) else (d_syntax_uses_stmt_j0 p3 s_syntax_uses_stmt n p0 p1 p2)))))
def d_syntax_uses_stmt_b (s_syntax_uses_stmt : (List ByteArray) → (List ByteArray) → (List ByteArray) → T_api_Stmt → Option ((List ByteArray) × (List ByteArray) × (List ByteArray))) (n : Nat) (p0 : (List ByteArray)) (p1 : (List ByteArray)) (p2 : (List ByteArray)) (p3 : T_api_Stmt) : Option ((List ByteArray) × (List ByteArray) × (List ByteArray)) :=
  (bif (decide (p3.Op = (4 : Int))) then (d_syntax_uses_stmt_j2 p0 p1 p2 p3 s_syntax_uses_stmt n (decide (p3.Op = (4 : Int)))) else (d_syntax_uses_stmt_j2 p0 p1 p2 p3 s_syntax_uses_stmt n (decide (p3.Op = (5 : Int)))))
set_option maxRecDepth 100000 in
set_option maxHeartbeats 4000000 in
theorem cb_syntax_uses_stmt (s_syntax_uses_stmt : (List ByteArray) → (List ByteArray) → (List ByteArray) → T_api_Stmt → Option ((List ByteArray) × (List ByteArray) × (List ByteArray))) (n : Nat) (p0 : (List ByteArray)) (p1 : (List ByteArray)) (p2 : (List ByteArray)) (p3 : T_api_Stmt) (H_s_syntax_uses_stmt : ∀ (p0 : (List ByteArray)) (p1 : (List ByteArray)) (p2 : (List ByteArray)) (p3 : T_api_Stmt) {r : ((List ByteArray) × (List ByteArray) × (List ByteArray))}, s_syntax_uses_stmt p0 p1 p2 p3 = some r → ∀ {st : List Content} {x0 : Nat} {x1 : Nat} {x2 : Nat} (hx_x0 : st[x0]? = some (.map ty_string ty_bool p0)) (hx_x1 : st[x1]? = some (.map ty_string ty_bool p1)) (hx_x2 : st[x2]? = some (.map ty_string ty_bool p2)) (hne_x0_x1 : (x0 == x1) = false) (hne_x0_x2 : (x0 == x2) = false) (hne_x1_x2 : (x1 == x2) = false) {st' : List Content} (hst : (List.set (List.set (List.set st x0 (.map ty_string ty_bool r.1)) x1 (.map ty_string ty_bool r.2.1)) x2 (.map ty_string ty_bool r.2.2)) = st') {K : PV → List Content → Prop} (h : K (.tup []) st'), ACalls PR n_syntax_uses_stmt [(.agg [(.map x0), (.map x1), (.map x2)]), (.agg [(.d (.int .i64 p3.Op)), (.d (.str p3.Name)), (.d (.str p3.Src)), (.d (.int .i64 p3.N)), (.d (.sl (List.map rS p3.Cols))), (.d (.sl (List.map T_api_Expr.row p3.Exprs))), (.d (.sl (List.map T_api_Stmt.row p3.Body))), (.d (.sl (List.map T_api_Stmt.row p3.Else)))])] st K) {r : ((List ByteArray) × (List ByteArray) × (List ByteArray))} (hr : d_syntax_uses_stmt_b s_syntax_uses_stmt n p0 p1 p2 p3 = some r) {x0 : Nat} {x1 : Nat} {x2 : Nat} (hx_x0 : st[x0]? = some (.map ty_string ty_bool p0)) (hx_x1 : st[x1]? = some (.map ty_string ty_bool p1)) (hx_x2 : st[x2]? = some (.map ty_string ty_bool p2)) (hne_x0_x1 : (x0 == x1) = false) (hne_x0_x2 : (x0 == x2) = false) (hne_x1_x2 : (x1 == x2) = false) {st' : List Content} (hst : (List.set (List.set (List.set st x0 (.map ty_string ty_bool r.1)) x1 (.map ty_string ty_bool r.2.1)) x2 (.map ty_string ty_bool r.2.2)) = st') {K : PV → List Content → Prop} (h : K (.tup []) st') : ACalls PR n_syntax_uses_stmt [(.agg [(.map x0), (.map x1), (.map x2)]), (.agg [(.d (.int .i64 p3.Op)), (.d (.str p3.Name)), (.d (.str p3.Src)), (.d (.int .i64 p3.N)), (.d (.sl (List.map rS p3.Cols))), (.d (.sl (List.map T_api_Expr.row p3.Exprs))), (.d (.sl (List.map T_api_Stmt.row p3.Body))), (.d (.sl (List.map T_api_Stmt.row p3.Else)))])] st K := by
  subst hst
  refine ACalls.of F_syntax_uses_stmt (Nat.le_of_ble_eq_true rfl) fun hwf => ?_
  rw [args0_2]
  refine entry_nil ?_
  unfold x_syntax_uses_stmt
  rw [d_syntax_uses_stmt_b] at hr
  refine x_seq ?_
  refine x_region ?_
  unfold x_syntax_uses_stmt_r0
  refine o_box (k := 0) rfl rfl (e_t e_hit) pc_agg (by exact rfl) ?_
  refine o_box (k := 1) rfl rfl (e_t (e_m2 rfl e_hit)) pc_agg (by exact rfl) ?_
  refine run_nil ?_
  refine k_then ?_
  refine x_join (fun f st' => ∃ (v10 : (List ByteArray)), ∃ (v11 : (List ByteArray)), ∃ (v12 : (List ByteArray)), d_syntax_uses_stmt_j0 p3 s_syntax_uses_stmt n v10 v11 v12 = some r ∧ f 2 = (.ptr (st.length + 0) 0) ∧ f 3 = (.ptr (st.length + 1) 0) ∧ st' = (List.set (List.set (List.set st x0 (.map ty_string ty_bool v10)) x1 (.map ty_string ty_bool v11)) x2 (.map ty_string ty_bool v12)) ++ [(.box [(.map x0), (.map x1), (.map x2)]), (.box [(.d (.int .i64 p3.Op)), (.d (.str p3.Name)), (.d (.str p3.Src)), (.d (.int .i64 p3.N)), (.d (.sl (List.map rS p3.Cols))), (.d (.sl (List.map T_api_Expr.row p3.Exprs))), (.d (.sl (List.map T_api_Stmt.row p3.Body))), (.d (.sl (List.map T_api_Stmt.row p3.Else)))])]) ?_ ?_
  · refine x_seq ?_
    refine x_region ?_
    unfold x_syntax_uses_stmt_r1
    refine o_fa (e_t e_hit) (by exact rfl) ?_
    refine o_load (e_t e_hit) ((g_ext rfl 1).trans rfl) (by exact rfl) ?_
    refine run_nil ?_
    refine k_then ?_
    refine x_block ?_
    refine x_join (fun f st' => ∃ (v4 : Bool), d_syntax_uses_stmt_j2 p0 p1 p2 p3 s_syntax_uses_stmt n v4 = some r ∧ f 2 = (.ptr (st.length + 0) 0) ∧ f 3 = (.ptr (st.length + 1) 0) ∧ f 9 = (.d (.int .i64 p3.Op)) ∧ f 10 = (.d (.bool v4)) ∧ st' = st ++ [(.box [(.map x0), (.map x1), (.map x2)]), (.box [(.d (.int .i64 p3.Op)), (.d (.str p3.Name)), (.d (.str p3.Src)), (.d (.int .i64 p3.N)), (.d (.sl (List.map rS p3.Cols))), (.d (.sl (List.map T_api_Expr.row p3.Exprs))), (.d (.sl (List.map T_api_Stmt.row p3.Body))), (.d (.sl (List.map T_api_Stmt.row p3.Else)))])]) ?_ ?_
    · refine x_seq ?_
      refine x_region ?_
      unfold x_syntax_uses_stmt_r2
      refine o_bin (e_t e_hit) e_c (b_eql ?_)
      refine o_move (e_t e_hit) ?_
      refine run_nil ?_
      refine k_then ?_
      refine x_condL (e_t e_hit) hr (fun hr => ?_) (fun hr => ?_)
      · refine x_skip ?_
        refine k_then ?_
        exact ⟨(decide (p3.Op = (4 : Int))), hr, (e_m4 rfl (e_miss rfl e_hit)), (e_m4 rfl e_hit), (e_m2 rfl e_hit), e_hit, rfl⟩
      refine x_region ?_
      unfold x_syntax_uses_stmt_r3
      refine o_bin (e_t (e_m2 rfl e_hit)) e_c (b_eql ?_)
      refine o_move (e_t e_hit) ?_
      refine run_nil ?_
      refine k_then ?_
      exact ⟨(decide (p3.Op = (5 : Int))), hr, (e_m4 rfl (e_m2 rfl (e_miss rfl e_hit))), (e_m4 rfl (e_m2 rfl e_hit)), (e_m4 rfl e_hit), e_hit, rfl⟩
    rintro f st' ⟨v4, hr, h2, h3, h9, h10, rfl⟩
    rw [d_syntax_uses_stmt_j2] at hr
    refine x_condL (e_t h10) hr (fun hr => ?_) (fun hr => ?_)
    · refine x_regionD (k := 2) rfl rfl ?_
      unfold x_syntax_uses_stmt_r4
      refine acc_of_run (R := []) rfl rfl (o_fa (e_t h2) (by exact rfl) (run_nil ?_))
      refine acc_of_run rfl (rd_load (e_t e_hit)) (o_load (e_t e_hit) ((g_ext rfl 0).trans rfl) (by exact rfl) (run_nil ?_))
      refine acc_of_run (R := []) rfl rfl (o_fa (e_t (e_m2 rfl h3)) (by exact rfl) (run_nil ?_))
      refine acc_of_run rfl (rd_load (e_t e_hit)) (o_load (e_t e_hit) ((g_ext rfl 1).trans rfl) (by exact rfl) (run_nil ?_))
      refine acc_of_run (R := []) rfl rfl (o_fa (e_t (e_m4 rfl h2)) (by exact rfl) (run_nil ?_))
      refine acc_of_run rfl (rd_load (e_t e_hit)) (o_load (e_t e_hit) ((g_ext rfl 0).trans rfl) (by exact rfl) (run_nil ?_))
      refine acc_of_run (R := []) rfl rfl (o_fa (e_t (e_m4 rfl (e_m2 rfl h3))) (by exact rfl) (run_nil ?_))
      refine acc_of_run rfl (rd_load (e_t e_hit)) (o_load (e_t e_hit) ((g_ext rfl 1).trans rfl) (by exact rfl) (run_nil ?_))
      refine p_mapSetL (e_t (e_m4 rfl (e_m2 rfl e_hit))) (e_t (e_m4 rfl e_hit)) e_c (g_old hx_x0) (fun _ => ((s_old hx_x0).trans (congrArg (· ++ _) rfl))) hr (fun v5 hr => ?_)
      refine p_mapSetL (e_t (e_m2 rfl e_hit)) (e_t e_hit) e_c (g_old (get_set_ne hx_x1 hne_x0_x1)) (fun _ => ((s_old (get_set_ne hx_x1 hne_x0_x1)).trans (congrArg (· ++ _) rfl))) hr (fun v6 hr => ?_)
      refine runA_nil ?_
      refine ⟨by simp [okAll, okPairs, ancAt, Disj, ne_l1 hx_x0, ne_l2 hx_x0, ne_l3 hx_x0, ne_l4 hx_x0, ne_l1 hx_x1, ne_l2 hx_x1, ne_l3 hx_x1, ne_l4 hx_x1, ne_l1 hx_x2, ne_l2 hx_x2, ne_l3 hx_x2, ne_l4 hx_x2, ne_of_beq_f hne_x0_x1, ne_of_beq_f' hne_x0_x1, ne_of_beq_f hne_x0_x2, ne_of_beq_f' hne_x0_x2, ne_of_beq_f hne_x1_x2, ne_of_beq_f' hne_x1_x2], ?_⟩
      refine k_inN ?_
      refine k_then ?_
      exact ⟨v5, v6, p2, hr, (e_m4 rfl (e_m4 rfl h2)), (e_m4 rfl (e_m4 rfl h3)), (congrArg (· ++ _) ((set_self (get_set_ne (get_set_ne hx_x2 hne_x0_x2) hne_x1_x2)).symm.trans rfl))⟩
    refine x_seq ?_
    refine x_region ?_
    unfold x_syntax_uses_stmt_r5
    refine o_bin (e_t h9) e_c (b_eql ?_)
    refine o_move (e_t e_hit) ?_
    refine run_nil ?_
    refine k_then ?_
    refine x_condL (e_t e_hit) hr (fun hr => ?_) (fun hr => ?_)
    · refine x_region ?_
      unfold x_syntax_uses_stmt_r6
      refine o_fa (e_t (e_m2 rfl h2)) (by exact rfl) ?_
      refine o_load (e_t e_hit) ((g_ext rfl 0).trans rfl) (by exact rfl) ?_
      refine o_fa (e_t (e_m4 rfl h3)) (by exact rfl) ?_
      refine o_load (e_t e_hit) ((g_ext rfl 1).trans rfl) (by exact rfl) ?_
      refine o_mapSetL (e_t (e_m2 rfl e_hit)) (e_t e_hit) e_c (g_old hx_x0) (fun _ => ((s_old hx_x0).trans (congrArg (· ++ _) rfl))) hr (fun v7 hr => ?_)
      refine run_nil ?_
      refine k_inN ?_
      refine k_then ?_
      exact ⟨v7, p1, p2, hr, (e_m4 rfl (e_m2 rfl h2)), (e_m4 rfl (e_m2 rfl h3)), (congrArg (· ++ _) (((set_self (get_set_ne hx_x1 hne_x0_x1)).symm.trans rfl).trans ((set_self (get_set_ne (get_set_ne hx_x2 hne_x0_x2) hne_x1_x2)).symm.trans rfl)))⟩
    refine x_seq ?_
    refine x_region ?_
    unfold x_syntax_uses_stmt_r7
    refine o_bin (e_t (e_m2 rfl h9)) e_c (b_eql ?_)
    refine o_move (e_t e_hit) ?_
    refine run_nil ?_
    refine k_then ?_
    refine x_condL (e_t e_hit) hr (fun hr => ?_) (fun hr => ?_)
    · refine x_region ?_
      unfold x_syntax_uses_stmt_r8
      refine o_fa (e_t (e_m4 rfl h2)) (by exact rfl) ?_
      refine o_load (e_t e_hit) ((g_ext rfl 0).trans rfl) (by exact rfl) ?_
      refine o_fa (e_t (e_m4 rfl (e_m2 rfl h3))) (by exact rfl) ?_
      refine o_load (e_t e_hit) ((g_ext rfl 1).trans rfl) (by exact rfl) ?_
      refine o_mapSetL (e_t (e_m2 rfl e_hit)) (e_t e_hit) e_c (g_old hx_x1) (fun _ => ((s_old hx_x1).trans (congrArg (· ++ _) rfl))) hr (fun v8 hr => ?_)
      refine run_nil ?_
      refine k_inN ?_
      refine k_then ?_
      exact ⟨p0, v8, p2, hr, (e_m4 rfl (e_m4 rfl h2)), (e_m4 rfl (e_m4 rfl h3)), (congrArg (· ++ _) (((set_self (get_set_ne hx_x0 (beq_comm_f hne_x0_x1))).symm.trans (set_under (beq_comm_f hne_x0_x1) rfl)).trans ((set_self (get_set_ne (get_set_ne hx_x2 hne_x0_x2) hne_x1_x2)).symm.trans rfl)))⟩
    refine x_seq ?_
    refine x_region ?_
    unfold x_syntax_uses_stmt_r9
    refine o_bin (e_t (e_m4 rfl h9)) e_c (b_eql ?_)
    refine o_move (e_t e_hit) ?_
    refine run_nil ?_
    refine k_then ?_
    refine x_condL (e_t e_hit) hr (fun hr => ?_) (fun hr => ?_)
    rotate_left
    · refine x_skip ?_
      refine k_inN ?_
      refine k_then ?_
      exact ⟨p0, p1, p2, hr, (e_m4 rfl (e_m2 rfl h2)), (e_m4 rfl (e_m2 rfl h3)), (congrArg (· ++ _) ((((set_self hx_x0).symm.trans rfl).trans ((set_self (get_set_ne hx_x1 hne_x0_x1)).symm.trans rfl)).trans ((set_self (get_set_ne (get_set_ne hx_x2 hne_x0_x2) hne_x1_x2)).symm.trans rfl)))⟩
    refine x_region ?_
    unfold x_syntax_uses_stmt_r10
    refine o_fa (e_t (e_m4 rfl (e_m2 rfl h2))) (by exact rfl) ?_
    refine o_load (e_t e_hit) ((g_ext rfl 0).trans rfl) (by exact rfl) ?_
    refine o_fa (e_t (e_m4 rfl (e_m4 rfl h3))) (by exact rfl) ?_
    refine o_load (e_t e_hit) ((g_ext rfl 1).trans rfl) (by exact rfl) ?_
    refine o_mapSetL (e_t (e_m2 rfl e_hit)) (e_t e_hit) e_c (g_old hx_x2) (fun _ => ((s_old hx_x2).trans (congrArg (· ++ _) rfl))) hr (fun v9 hr => ?_)
    refine run_nil ?_
    refine k_inN ?_
    refine k_then ?_
    exact ⟨p0, p1, v9, hr, (e_m4 rfl (e_m4 rfl (e_m2 rfl h2))), (e_m4 rfl (e_m4 rfl (e_m2 rfl h3))), (congrArg (· ++ _) (((set_self (get_set_ne hx_x0 (beq_comm_f hne_x0_x2))).symm.trans (set_under (beq_comm_f hne_x0_x2) rfl)).trans ((set_self (get_set_ne (get_set_ne hx_x1 hne_x0_x1) (beq_comm_f hne_x1_x2))).symm.trans (set_under (beq_comm_f hne_x1_x2) rfl))))⟩
  rintro f st' ⟨v10, v11, v12, hr, h2, h3, rfl⟩
  rw [d_syntax_uses_stmt_j0] at hr
  refine x_join (fun f st' => ∃ (v17 : (List ByteArray)), d_syntax_uses_stmt_j1 p3 s_syntax_uses_stmt n v11 v12 v17 = some r ∧ f 2 = (.ptr (st.length + 0) 0) ∧ f 3 = (.ptr (st.length + 1) 0) ∧ st' = (List.set (List.set (List.set st x0 (.map ty_string ty_bool v17)) x1 (.map ty_string ty_bool v11)) x2 (.map ty_string ty_bool v12)) ++ [(.box [(.map x0), (.map x1), (.map x2)]), (.box [(.d (.int .i64 p3.Op)), (.d (.str p3.Name)), (.d (.str p3.Src)), (.d (.int .i64 p3.N)), (.d (.sl (List.map rS p3.Cols))), (.d (.sl (List.map T_api_Expr.row p3.Exprs))), (.d (.sl (List.map T_api_Stmt.row p3.Body))), (.d (.sl (List.map T_api_Stmt.row p3.Else)))])]) ?_ ?_
  · refine x_seq ?_
    refine x_region ?_
    unfold x_syntax_uses_stmt_r11
    refine o_fa (e_t h3) (by exact rfl) ?_
    refine o_load (e_t e_hit) ((g_ext (len_set (len_set (len_set rfl))) 1).trans rfl) (by exact rfl) ?_
    refine o_lenL (row := T_api_Expr.row) (ar_of (e_t e_hit) ar_d) ?_
    refine o_move e_c ?_
    refine run_nil ?_
    refine k_then ?_
    refine x_block ?_
    refine x_loopL (fun m f st' => ∃ (v13 : (List ByteArray)), ∃ (v14 : Int), d_syntax_uses_stmt_l1 p3 s_syntax_uses_stmt n v11 v12 m v13 v14 = some r ∧ f 2 = (.ptr (st.length + 0) 0) ∧ f 3 = (.ptr (st.length + 1) 0) ∧ f 40 = (.d (.sl (List.map T_api_Expr.row p3.Exprs))) ∧ f 41 = (.d (.int .i64 (p3.Exprs.length : Int))) ∧ f 42 = (.d (.int .i64 v14)) ∧ st' = (List.set (List.set (List.set st x0 (.map ty_string ty_bool v13)) x1 (.map ty_string ty_bool v11)) x2 (.map ty_string ty_bool v12)) ++ [(.box [(.map x0), (.map x1), (.map x2)]), (.box [(.d (.int .i64 p3.Op)), (.d (.str p3.Name)), (.d (.str p3.Src)), (.d (.int .i64 p3.N)), (.d (.sl (List.map rS p3.Cols))), (.d (.sl (List.map T_api_Expr.row p3.Exprs))), (.d (.sl (List.map T_api_Stmt.row p3.Body))), (.d (.sl (List.map T_api_Stmt.row p3.Else)))])]) n (Ghost.refl _) ⟨v10, (0 : Int), hr, (e_m4 rfl h2), (e_m4 rfl h3), (e_m2 rfl e_hit), (e_miss rfl e_hit), e_hit, rfl⟩ ?_
    rintro m f st' ⟨v13, v14, hr, h2, h3, h40, h41, h42, rfl⟩
    cases m with
    | zero => cases hr
    | succ m_1 =>
      rw [d_syntax_uses_stmt_l1] at hr
      generalize hrec_1 : d_syntax_uses_stmt_l1 p3 s_syntax_uses_stmt n v11 v12 m_1 = rec_l_1 at hr
      rw [d_syntax_uses_stmt_l1b] at hr
      unfold x_syntax_uses_stmt_l16
      refine x_seq ?_
      refine x_region ?_
      unfold x_syntax_uses_stmt_r12
      refine o_bin (e_t h42) (e_t h41) (b_lss ?_)
      refine run_nil ?_
      refine k_then ?_
      refine x_seq ?_
      refine x_condL (e_t e_hit) hr (fun hr => ?_) (fun hr => ?_)
      rotate_left
      · refine x_exit ?_
        refine k_thenE ?_
        refine k_thenE ?_
        refine k_inE ?_
        refine k_then ?_
        exact ⟨v13, hr, (e_miss rfl h2), (e_miss rfl h3), rfl⟩
      refine x_skip ?_
      refine k_then ?_
      refine x_seq ?_
      refine x_block ?_
      refine x_seq ?_
      refine x_region ?_
      unfold x_syntax_uses_stmt_r13
      refine o_idxL (row := T_api_Expr.row) (ar_of (e_t (e_miss rfl h40)) ar_d) (e_t (e_miss rfl h42)) hr T_api_Expr.row_eq (fun _ => rfl) (fun v15 hr => ?_)
      refine o_loadDA (e_t e_hit) (Nat.le_of_ble_eq_true rfl) (by exact rfl) ?_
      refine o_alloc (k := 2) (len_set (len_set (len_set rfl))) rfl ?_
      refine o_store (e_t e_hit) ((g_ext (len_set (len_set (len_set rfl))) 2).trans rfl) (e_t (e_miss rfl e_hit)) pc_agg rfl (Nat.le_of_ble_eq_true rfl) (by exact rfl) (cells' := [(.d (.int .i64 v15.Op)), (.d (.int .i64 v15.N)), (.d (.str v15.S)), (.d (.str v15.Name)), (.d (.str v15.Src)), (.d (.sl (List.map T_api_Expr.row v15.Args)))]) (by exact rfl) (s_ext (len_set (len_set (len_set rfl))) _ _) ?_
      refine run_nil ?_
      refine k_then ?_
      refine x_region ?_
      unfold x_syntax_uses_stmt_r14
      refine o_loadA (e_t (e_m4 rfl h2)) ((g_ext (len_set (len_set (len_set rfl))) 0).trans rfl) (Nat.le_of_ble_eq_true rfl) (by exact rfl) ?_
      refine o_loadA (e_t (e_miss rfl e_hit)) ((g_ext (len_set (len_set (len_set rfl))) 2).trans rfl) (Nat.le_of_ble_eq_true rfl) (by exact rfl) ?_
      obtain ⟨v16, hc_v16, hr⟩ := bind_some hr
      refine o_call (a_cons (e_t (e_miss rfl e_hit)) (fz_agg (f_cons f_map (f_cons f_map (f_cons f_map f_nil)))) (a_cons (e_t e_hit) (fz_agg (f_cons f_d (f_cons f_d (f_cons f_d (f_cons f_d (f_cons f_d (f_cons f_d f_nil))))))) a_nil)) ?_
      refine c_syntax_uses_expr n v13 v11 v12 v15 hc_v16 (g_old (get_set_ne (get_set_ne (get_set_same hx_x0) (beq_comm_f hne_x0_x1)) (beq_comm_f hne_x0_x2))) (g_old (get_set_ne (get_set_same (get_set_ne hx_x1 hne_x0_x1)) (beq_comm_f hne_x1_x2))) (g_old (get_set_same (get_set_ne (get_set_ne hx_x2 hne_x0_x2) hne_x1_x2))) hne_x0_x1 hne_x0_x2 ((s_old (get_set_ne (get_set_ne (get_set_same hx_x0) (beq_comm_f hne_x0_x1)) (beq_comm_f hne_x0_x2))).trans (congrArg (· ++ _) (set_under (beq_comm_f hne_x0_x2) (set_under (beq_comm_f hne_x0_x1) set_last)))) ?_
      refine run_nil ?_
      refine k_inN ?_
      refine k_then ?_
      refine x_region ?_
      unfold x_syntax_uses_stmt_r15
      refine o_bin (e_t (e_m4 rfl (e_m2 rfl (e_miss rfl h42)))) e_c (b_add ?_)
      refine o_move (e_t e_hit) ?_
      refine run_nil ?_
      refine k_then ?_
      exact ⟨m_1, _, Nat.lt_succ_self m_1, Ghost.cut _ (st.length + 2) (Nat.le_add_right _ _), v16, (IntKind.wrap .i64 (v14 + (1 : Int))), (by rw [hrec_1]; exact hr), ((congrArg (cutV _) (e_m4 rfl (e_m4 rfl (e_miss rfl h2)))).trans (by simp [cutV, belowB])), ((congrArg (cutV _) (e_m4 rfl (e_m4 rfl (e_miss rfl h3)))).trans (by simp [cutV, belowB])), ((congrArg (cutV _) (e_m4 rfl (e_m4 rfl (e_miss rfl h40)))).trans (v_d)), ((congrArg (cutV _) (e_m4 rfl (e_m4 rfl (e_miss rfl h41)))).trans (v_d)), ((congrArg (cutV _) e_hit).trans (v_d)), (cut_keep (l0 := [(.box [(.map x0), (.map x1), (.map x2)]), (.box [(.d (.int .i64 p3.Op)), (.d (.str p3.Name)), (.d (.str p3.Src)), (.d (.int .i64 p3.N)), (.d (.sl (List.map rS p3.Cols))), (.d (.sl (List.map T_api_Expr.row p3.Exprs))), (.d (.sl (List.map T_api_Stmt.row p3.Body))), (.d (.sl (List.map T_api_Stmt.row p3.Else)))])]) (l1 := _) (WF.setMap (WF.setMap (WF.setMap hwf))) (len_set (len_set (len_set rfl))) rfl (by simp [cutC, cutV, belowB, belowB.belowL, lt_old hx_x0, lt_old hx_x1, lt_old hx_x2]))⟩
  rintro f st' ⟨v17, hr, h2, h3, rfl⟩
  rw [d_syntax_uses_stmt_j1] at hr
  refine x_seq ?_
  refine x_regionD (k := 2) (len_set (len_set (len_set rfl))) rfl ?_
  unfold x_syntax_uses_stmt_r17
  refine acc_of_run (R := []) rfl rfl (o_fa (e_t h3) (by exact rfl) (run_nil ?_))
  refine acc_of_run rfl (rd_load (e_t e_hit)) (o_load (e_t e_hit) ((g_ext (len_set (len_set (len_set rfl))) 1).trans rfl) (by exact rfl) (run_nil ?_))
  obtain ⟨v18, hc_v18, hr⟩ := bind_some hr
  refine p_callOwn (k := 2) (len_set (len_set (len_set rfl))) (by exact rfl) (a_cons (e_t e_hit) fz_d a_nil) (ta_cons (e_t e_hit) (by exact rfl) ta_nil) (fun S => c_slices_Clone_api_Stmt_api_Stmt p3.Body hc_v18) ?_
  refine acc_of_run (R := []) rfl rfl (o_fa (e_t (e_m2 rfl (e_miss rfl h3))) (by exact rfl) (run_nil ?_))
  refine acc_of_run rfl (rd_load (e_t e_hit)) (o_load (e_t e_hit) ((g_ext (len_set (len_set (len_set rfl))) 1).trans rfl) (by exact rfl) (run_nil ?_))
  refine p_appOL (row := T_api_Stmt.row) (e_t e_hit) ar_d T_api_Stmt.row_eq (fun _ => rfl) (e_t (e_m2 rfl e_hit)) ((g_ext (len_set (len_set (len_set rfl))) 2).trans rfl) (fun _ => (s_ext (len_set (len_set (len_set rfl))) _ _)) hr (fun v19 hr => ?_)
  refine acc_of_run rfl (rd_tokO (e_t e_hit)) (o_lenL (row := T_api_Stmt.row) (ar_of (e_t e_hit) (ar_own ((g_ext (len_set (len_set (len_set rfl))) 2).trans rfl))) (run_nil ?_))
  refine acc_of_run (R := []) rfl rfl (o_move e_c (run_nil ?_))
  refine runA_nil ?_
  refine ⟨by simp [okAll, okPairs, ancAt, Disj, ne_l1 hx_x0, ne_l2 hx_x0, ne_l3 hx_x0, ne_l4 hx_x0, ne_l1 hx_x1, ne_l2 hx_x1, ne_l3 hx_x1, ne_l4 hx_x1, ne_l1 hx_x2, ne_l2 hx_x2, ne_l3 hx_x2, ne_l4 hx_x2, ne_of_beq_f hne_x0_x1, ne_of_beq_f' hne_x0_x1, ne_of_beq_f hne_x0_x2, ne_of_beq_f' hne_x0_x2, ne_of_beq_f hne_x1_x2, ne_of_beq_f' hne_x1_x2], ?_⟩
  refine k_then ?_
  refine x_block ?_
  refine x_loopL (fun m f st' => ∃ (v20 : (List ByteArray)), ∃ (v21 : (List ByteArray)), ∃ (v22 : (List ByteArray)), ∃ (v23 : Int), d_syntax_uses_stmt_l0 s_syntax_uses_stmt v19 m v20 v21 v22 v23 = some r ∧ f 2 = (.ptr (st.length + 0) 0) ∧ f 55 = (.own (st.length + 2) 2) ∧ f 56 = (.d (.int .i64 (v19.length : Int))) ∧ f 57 = (.d (.int .i64 v23)) ∧ st' = (List.set (List.set (List.set st x0 (.map ty_string ty_bool v20)) x1 (.map ty_string ty_bool v21)) x2 (.map ty_string ty_bool v22)) ++ [(.box [(.map x0), (.map x1), (.map x2)]), (.box [(.d (.int .i64 p3.Op)), (.d (.str p3.Name)), (.d (.str p3.Src)), (.d (.int .i64 p3.N)), (.d (.sl (List.map rS p3.Cols))), (.d (.sl (List.map T_api_Expr.row p3.Exprs))), (.d (.sl (List.map T_api_Stmt.row p3.Body))), (.d (.sl (List.map T_api_Stmt.row p3.Else)))]), (.row ty_api_Stmt 2 (List.map T_api_Stmt.row v19)), .fresh]) n (Ghost.refl _) ⟨v17, v11, v12, (0 : Int), hr, (e_m4 rfl (e_m4 rfl h2)), (e_m2 rfl e_hit), (e_miss rfl e_hit), e_hit, rfl⟩ ?_
  rintro m f st' ⟨v20, v21, v22, v23, hr, h2, h55, h56, h57, rfl⟩
  cases m with
  | zero => cases hr
  | succ m_0 =>
    rw [d_syntax_uses_stmt_l0] at hr
    generalize hrec_0 : d_syntax_uses_stmt_l0 s_syntax_uses_stmt v19 m_0 = rec_l_0 at hr
    rw [d_syntax_uses_stmt_l0b] at hr
    unfold x_syntax_uses_stmt_l22
    refine x_seq ?_
    refine x_region ?_
    unfold x_syntax_uses_stmt_r18
    refine o_bin (e_t h57) (e_t h56) (b_lss ?_)
    refine run_nil ?_
    refine k_then ?_
    refine x_seq ?_
    refine x_condL (e_t e_hit) hr (fun hr => ?_) (fun hr => ?_)
    rotate_left
    · refine x_exit ?_
      refine k_thenE ?_
      refine k_thenE ?_
      refine k_inE ?_
      cases hr
      exact retK_n r_nil p_nil (cutS_of (WF.setMap (WF.setMap (WF.setMap hwf))) (len_set (len_set (len_set rfl)))) h
    refine x_skip ?_
    refine k_then ?_
    refine x_seq ?_
    refine x_block ?_
    refine x_seq ?_
    refine x_region ?_
    unfold x_syntax_uses_stmt_r19
    refine o_idxL (row := T_api_Stmt.row) (ar_of (e_t (e_miss rfl h55)) (ar_own ((g_ext (len_set (len_set (len_set rfl))) 2).trans rfl))) (e_t (e_miss rfl h57)) hr T_api_Stmt.row_eq (fun _ => rfl) (fun v24 hr => ?_)
    refine o_loadDA (e_t e_hit) (Nat.le_of_ble_eq_true rfl) (by exact rfl) ?_
    refine o_alloc (k := 4) (len_set (len_set (len_set rfl))) rfl ?_
    refine o_store (e_t e_hit) ((g_ext (len_set (len_set (len_set rfl))) 4).trans rfl) (e_t (e_miss rfl e_hit)) pc_agg rfl (Nat.le_of_ble_eq_true rfl) (by exact rfl) (cells' := [(.d (.int .i64 v24.Op)), (.d (.str v24.Name)), (.d (.str v24.Src)), (.d (.int .i64 v24.N)), (.d (.sl (List.map rS v24.Cols))), (.d (.sl (List.map T_api_Expr.row v24.Exprs))), (.d (.sl (List.map T_api_Stmt.row v24.Body))), (.d (.sl (List.map T_api_Stmt.row v24.Else)))]) (by exact rfl) (s_ext (len_set (len_set (len_set rfl))) _ _) ?_
    refine run_nil ?_
    refine k_then ?_
    refine x_region ?_
    unfold x_syntax_uses_stmt_r20
    refine o_loadA (e_t (e_m4 rfl h2)) ((g_ext (len_set (len_set (len_set rfl))) 0).trans rfl) (Nat.le_of_ble_eq_true rfl) (by exact rfl) ?_
    refine o_loadA (e_t (e_miss rfl e_hit)) ((g_ext (len_set (len_set (len_set rfl))) 4).trans rfl) (Nat.le_of_ble_eq_true rfl) (by exact rfl) ?_
    obtain ⟨v25, hc_v25, hr⟩ := bind_some hr
    refine o_call (a_cons (e_t (e_miss rfl e_hit)) (fz_agg (f_cons f_map (f_cons f_map (f_cons f_map f_nil)))) (a_cons (e_t e_hit) (fz_agg (f_cons f_d (f_cons f_d (f_cons f_d (f_cons f_d (f_cons f_d (f_cons f_d (f_cons f_d (f_cons f_d f_nil))))))))) a_nil)) ?_
    refine H_s_syntax_uses_stmt v20 v21 v22 v24 hc_v25 (g_old (get_set_ne (get_set_ne (get_set_same hx_x0) (beq_comm_f hne_x0_x1)) (beq_comm_f hne_x0_x2))) (g_old (get_set_ne (get_set_same (get_set_ne hx_x1 hne_x0_x1)) (beq_comm_f hne_x1_x2))) (g_old (get_set_same (get_set_ne (get_set_ne hx_x2 hne_x0_x2) hne_x1_x2))) hne_x0_x1 hne_x0_x2 hne_x1_x2 ((congrArg (List.set · _ _) ((congrArg (List.set · _ _) ((s_old (get_set_ne (get_set_ne (get_set_same hx_x0) (beq_comm_f hne_x0_x1)) (beq_comm_f hne_x0_x2))).trans (congrArg (· ++ _) (set_under (beq_comm_f hne_x0_x2) (set_under (beq_comm_f hne_x0_x1) set_last))))).trans ((s_old (get_set_ne (get_set_same (get_set_ne hx_x1 hne_x0_x1)) (beq_comm_f hne_x1_x2))).trans (congrArg (· ++ _) (set_under (beq_comm_f hne_x1_x2) set_last))))).trans ((s_old (get_set_same (get_set_ne (get_set_ne hx_x2 hne_x0_x2) hne_x1_x2))).trans (congrArg (· ++ _) set_last))) ?_
    refine run_nil ?_
    refine k_inN ?_
    refine k_then ?_
    refine x_region ?_
    unfold x_syntax_uses_stmt_r21
    refine o_bin (e_t (e_m4 rfl (e_m2 rfl (e_miss rfl h57)))) e_c (b_add ?_)
    refine o_move (e_t e_hit) ?_
    refine run_nil ?_
    refine k_then ?_
    exact ⟨m_0, _, Nat.lt_succ_self m_0, Ghost.cut _ (st.length + 4) (Nat.le_add_right _ _), v25.1, v25.2.1, v25.2.2, (IntKind.wrap .i64 (v23 + (1 : Int))), (by rw [hrec_0]; exact hr), ((congrArg (cutV _) (e_m4 rfl (e_m4 rfl (e_miss rfl h2)))).trans (by simp [cutV, belowB])), ((congrArg (cutV _) (e_m4 rfl (e_m4 rfl (e_miss rfl h55)))).trans (by simp [cutV, belowB])), ((congrArg (cutV _) (e_m4 rfl (e_m4 rfl (e_miss rfl h56)))).trans (v_d)), ((congrArg (cutV _) e_hit).trans (v_d)), (cut_keep (l0 := [(.box [(.map x0), (.map x1), (.map x2)]), (.box [(.d (.int .i64 p3.Op)), (.d (.str p3.Name)), (.d (.str p3.Src)), (.d (.int .i64 p3.N)), (.d (.sl (List.map rS p3.Cols))), (.d (.sl (List.map T_api_Expr.row p3.Exprs))), (.d (.sl (List.map T_api_Stmt.row p3.Body))), (.d (.sl (List.map T_api_Stmt.row p3.Else)))]), (.row ty_api_Stmt 2 (List.map T_api_Stmt.row v19)), .fresh]) (l1 := _) (WF.setMap (WF.setMap (WF.setMap hwf))) (len_set (len_set (len_set rfl))) rfl (by simp [cutC, cutV, belowB, belowB.belowL, lt_old hx_x0, lt_old hx_x1, lt_old hx_x2]))⟩
def d_syntax_uses_stmt : Nat → (List ByteArray) → (List ByteArray) → (List ByteArray) → T_api_Stmt → Option ((List ByteArray) × (List ByteArray) × (List ByteArray))
  | 0, _, _, _, _ => none
  | n + 1, p0, p1, p2, p3 => d_syntax_uses_stmt_b (d_syntax_uses_stmt n) n p0 p1 p2 p3
theorem cs_syntax_uses_stmt : ∀ n : Nat, (∀ (p0 : (List ByteArray)) (p1 : (List ByteArray)) (p2 : (List ByteArray)) (p3 : T_api_Stmt) {r : ((List ByteArray) × (List ByteArray) × (List ByteArray))}, d_syntax_uses_stmt n p0 p1 p2 p3 = some r → ∀ {st : List Content} {x0 : Nat} {x1 : Nat} {x2 : Nat} (hx_x0 : st[x0]? = some (.map ty_string ty_bool p0)) (hx_x1 : st[x1]? = some (.map ty_string ty_bool p1)) (hx_x2 : st[x2]? = some (.map ty_string ty_bool p2)) (hne_x0_x1 : (x0 == x1) = false) (hne_x0_x2 : (x0 == x2) = false) (hne_x1_x2 : (x1 == x2) = false) {st' : List Content} (hst : (List.set (List.set (List.set st x0 (.map ty_string ty_bool r.1)) x1 (.map ty_string ty_bool r.2.1)) x2 (.map ty_string ty_bool r.2.2)) = st') {K : PV → List Content → Prop} (h : K (.tup []) st'), ACalls PR n_syntax_uses_stmt [(.agg [(.map x0), (.map x1), (.map x2)]), (.agg [(.d (.int .i64 p3.Op)), (.d (.str p3.Name)), (.d (.str p3.Src)), (.d (.int .i64 p3.N)), (.d (.sl (List.map rS p3.Cols))), (.d (.sl (List.map T_api_Expr.row p3.Exprs))), (.d (.sl (List.map T_api_Stmt.row p3.Body))), (.d (.sl (List.map T_api_Stmt.row p3.Else)))])] st K)
  | 0 => fun _ _ _ _ _ hr => (by rw [d_syntax_uses_stmt] at hr; cases hr)
  | n + 1 => fun p0 p1 p2 p3 _ hr _ _ _ _ hx_x0 hx_x1 hx_x2 hne_x0_x1 hne_x0_x2 hne_x1_x2 _ hst _ h => cb_syntax_uses_stmt (d_syntax_uses_stmt n) n p0 p1 p2 p3 (cs_syntax_uses_stmt n) (by rw [d_syntax_uses_stmt] at hr; exact hr) hx_x0 hx_x1 hx_x2 hne_x0_x1 hne_x0_x2 hne_x1_x2 hst h
theorem c_syntax_uses_stmt (n : Nat) (p0 : (List ByteArray)) (p1 : (List ByteArray)) (p2 : (List ByteArray)) (p3 : T_api_Stmt) {r : ((List ByteArray) × (List ByteArray) × (List ByteArray))} (hr : d_syntax_uses_stmt n p0 p1 p2 p3 = some r) {x0 : Nat} {x1 : Nat} {x2 : Nat} (hx_x0 : st[x0]? = some (.map ty_string ty_bool p0)) (hx_x1 : st[x1]? = some (.map ty_string ty_bool p1)) (hx_x2 : st[x2]? = some (.map ty_string ty_bool p2)) (hne_x0_x1 : (x0 == x1) = false) (hne_x0_x2 : (x0 == x2) = false) (hne_x1_x2 : (x1 == x2) = false) {st' : List Content} (hst : (List.set (List.set (List.set st x0 (.map ty_string ty_bool r.1)) x1 (.map ty_string ty_bool r.2.1)) x2 (.map ty_string ty_bool r.2.2)) = st') {K : PV → List Content → Prop} (h : K (.tup []) st') : ACalls PR n_syntax_uses_stmt [(.agg [(.map x0), (.map x1), (.map x2)]), (.agg [(.d (.int .i64 p3.Op)), (.d (.str p3.Name)), (.d (.str p3.Src)), (.d (.int .i64 p3.N)), (.d (.sl (List.map rS p3.Cols))), (.d (.sl (List.map T_api_Expr.row p3.Exprs))), (.d (.sl (List.map T_api_Stmt.row p3.Body))), (.d (.sl (List.map T_api_Stmt.row p3.Else)))])] st K := (cs_syntax_uses_stmt n) p0 p1 p2 p3 hr hx_x0 hx_x1 hx_x2 hne_x0_x1 hne_x0_x2 hne_x1_x2 hst h

def d_syntax_used_l0b (p0 : T_api_Proc) (n : Nat) (rec_l_0 : (List ByteArray) → (List ByteArray) → (List ByteArray) → Int → Option ((List ByteArray) × (List ByteArray) × (List ByteArray))) (v2 : (List ByteArray)) (v3 : (List ByteArray)) (v4 : (List ByteArray)) (v5 : Int) : Option ((List ByteArray) × (List ByteArray) × (List ByteArray)) :=
  (bif (decide (v5 < (p0.Body.length : Int))) then ((idxL p0.Body v5).bind fun v6 => ((d_syntax_uses_stmt n v2 v3 v4 v6).bind fun v7 => rec_l_0 v7.1 v7.2.1 v7.2.2 (IntKind.wrap .i64 (v5 + (1 : Int))))) else some (v2, v3, v4))
def d_syntax_used_l0 (p0 : T_api_Proc) (n : Nat) : Nat → (List ByteArray) → (List ByteArray) → (List ByteArray) → Int → Option ((List ByteArray) × (List ByteArray) × (List ByteArray))
  | 0, _, _, _, _ => none
  | m + 1, v2, v3, v4, v5 => d_syntax_used_l0b p0 n (d_syntax_used_l0 p0 n m) v2 v3 v4 v5
def d_syntax_used (n : Nat) (p0 : T_api_Proc) : Option ((List ByteArray) × (List ByteArray) × (List ByteArray)) :=
  ((d_syntax_Right n p0).bind fun v1 => (bif v1 then (d_syntax_used_l0 p0 n n ([]) ([]) ([]) (0 : Int)) else some ([], [], [])))
set_option maxRecDepth 100000 in
set_option maxHeartbeats 4000000 in
theorem c_syntax_used (n : Nat) (p0 : T_api_Proc) {r : ((List ByteArray) × (List ByteArray) × (List ByteArray))} (hr : d_syntax_used n p0 = some r) {m : Nat} (hm : st.length = m) {st' : List Content} (hst : st ++ [.dead, (.box [(.map (m + 2)), (.map (m + 3)), (.map (m + 4))]), (.map ty_string ty_bool r.1), (.map ty_string ty_bool r.2.1), (.map ty_string ty_bool r.2.2)] = st') {K : PV → List Content → Prop} (h : K (.agg [(.map (m + 2)), (.map (m + 3)), (.map (m + 4))]) st') : ACalls PR n_syntax_used [(.agg [(.d (.str p0.Name)), (.d (.str p0.From)), (.d (.str p0.At)), (.d (.int .i64 p0.Fuel)), (.d (.sl (List.map T_api_Column.row p0.Params))), (.d (.sl (List.map T_api_Stmt.row p0.Body)))])] st K := by
  refine ACalls.of_ownG F_syntax_used (Nat.le_of_ble_eq_true rfl) fun hwf => ?_
  rw [args0_1]
  refine entry_nil ?_
  unfold x_syntax_used
  rw [d_syntax_used] at hr
  refine x_seq ?_
  refine x_region ?_
  unfold x_syntax_used_r0
  refine o_box (k := 0) rfl rfl (e_t e_hit) pc_agg (by exact rfl) ?_
  refine o_alloc (k := 1) rfl rfl ?_
  refine run_nil ?_
  refine k_then ?_
  refine x_seq ?_
  refine x_region ?_
  unfold x_syntax_used_r1
  refine o_mkMap (k := 2) rfl rfl ?_
  refine o_mkMap (k := 3) rfl rfl ?_
  refine o_mkMap (k := 4) rfl rfl ?_
  refine o_build (cs := [(.map (st.length + 2)), (.map (st.length + 3)), (.map (st.length + 4))]) (fo_cons (e_t (e_m2 rfl e_hit)) rfl rfl (Nat.le_of_ble_eq_true rfl) (by exact rfl) (fo_cons (e_t (e_miss rfl e_hit)) rfl rfl (Nat.le_of_ble_eq_true rfl) (by exact rfl) (fo_cons (e_t e_hit) rfl rfl (Nat.le_of_ble_eq_true rfl) (by exact rfl) fo_nil))) (fp_cons (e_t (e_m2 rfl e_hit)) rfl (by exact rfl) (fp_cons (e_t (e_miss rfl e_hit)) rfl (by exact rfl) (fp_cons (e_t e_hit) rfl (by exact rfl) fp_nil))) ?_
  refine o_alloc (k := 5) rfl rfl ?_
  refine o_store (e_t e_hit) ((g_ext rfl 5).trans rfl) (e_t (e_miss rfl e_hit)) pc_agg rfl (Nat.le_of_ble_eq_true rfl) (by exact rfl) (cells' := [(.map (st.length + 2)), (.map (st.length + 3)), (.map (st.length + 4))]) (by exact rfl) (s_ext rfl _ _) ?_
  refine run_nil ?_
  refine k_then ?_
  refine x_seq ?_
  refine x_seq ?_
  refine x_region ?_
  unfold x_syntax_used_r2
  refine o_loadA (e_t (e_m4 rfl (e_m2 rfl e_hit))) ((g_ext rfl 0).trans rfl) (Nat.le_of_ble_eq_true rfl) (by exact rfl) ?_
  obtain ⟨v1, hc_v1, hr⟩ := bind_some hr
  refine o_call (a_cons (e_t e_hit) (fz_agg (f_cons f_d (f_cons f_d (f_cons f_d (f_cons f_d (f_cons f_d (f_cons f_d f_nil))))))) a_nil) ?_
  refine c_syntax_Right n p0 hc_v1 ?_
  refine run_nil ?_
  refine k_then ?_
  refine x_condL (e_t e_hit) hr (fun hr => ?_) (fun hr => ?_)
  rotate_left
  · refine x_skip ?_
    refine k_then ?_
    refine x_seq ?_
    refine x_region ?_
    unfold x_syntax_used_r9
    refine o_loadA (e_t (e_m2 rfl e_hit)) ((g_ext rfl 5).trans rfl) (Nat.le_of_ble_eq_true rfl) (by exact rfl) ?_
    refine o_store (e_t (e_m4 rfl (e_m4 rfl e_hit))) ((g_ext rfl 1).trans rfl) (e_t e_hit) pc_agg rfl (Nat.le_of_ble_eq_true rfl) (by exact rfl) (cells' := [(.map (st.length + 2)), (.map (st.length + 3)), (.map (st.length + 4))]) (by exact rfl) (s_ext rfl _ _) ?_
    refine run_nil ?_
    refine k_then ?_
    refine x_ret ?_
    cases hr
    subst hm
    refine ⟨_, (gh_kill 0 rfl), ?_⟩
    exact ⟨_, st.length + 5, (r_cellA (e_m4 rfl (e_m4 rfl e_hit)) ((g_ext rfl 1).trans rfl) (Nat.le_of_ble_eq_true rfl) (by exact rfl) r_nil), Nat.le_add_right _ _, own_end (by simp [pack, cutV, belowB, belowB.belowL]) (cut_own (l0 := [.dead, (.box [(.map (st.length + 2)), (.map (st.length + 3)), (.map (st.length + 4))]), (.map ty_string ty_bool ([])), (.map ty_string ty_bool ([])), (.map ty_string ty_bool ([]))]) (l1 := _) hwf rfl rfl (by simp [cutC, cutV, belowB, belowB.belowL]) hst) h⟩
  refine x_seq ?_
  refine x_region ?_
  unfold x_syntax_used_r3
  refine o_fa (e_t (e_m4 rfl (e_m4 rfl e_hit))) (by exact rfl) ?_
  refine o_load (e_t e_hit) ((g_ext rfl 0).trans rfl) (by exact rfl) ?_
  refine o_lenL (row := T_api_Stmt.row) (ar_of (e_t e_hit) ar_d) ?_
  refine o_move e_c ?_
  refine run_nil ?_
  refine k_then ?_
  refine x_block ?_
  refine x_loopL (fun m f st' => ∃ (v2 : (List ByteArray)), ∃ (v3 : (List ByteArray)), ∃ (v4 : (List ByteArray)), ∃ (v5 : Int), d_syntax_used_l0 p0 n m v2 v3 v4 v5 = some r ∧ f 2 = (.ptr (st.length + 1) 0) ∧ f 3 = (.ptr (st.length + 5) 0) ∧ f 13 = (.d (.sl (List.map T_api_Stmt.row p0.Body))) ∧ f 14 = (.d (.int .i64 (p0.Body.length : Int))) ∧ f 15 = (.d (.int .i64 v5)) ∧ st' = st ++ [(.box [(.d (.str p0.Name)), (.d (.str p0.From)), (.d (.str p0.At)), (.d (.int .i64 p0.Fuel)), (.d (.sl (List.map T_api_Column.row p0.Params))), (.d (.sl (List.map T_api_Stmt.row p0.Body)))]), (.box [.nilm, .nilm, .nilm]), (.map ty_string ty_bool v2), (.map ty_string ty_bool v3), (.map ty_string ty_bool v4), (.box [(.map (st.length + 2)), (.map (st.length + 3)), (.map (st.length + 4))])]) n (Ghost.refl _) ⟨[], [], [], (0 : Int), hr, (e_m4 rfl (e_m4 rfl (e_m2 rfl (e_miss rfl e_hit)))), (e_m4 rfl (e_m2 rfl e_hit)), (e_m2 rfl e_hit), (e_miss rfl e_hit), e_hit, rfl⟩ ?_
  rintro m f st' ⟨v2, v3, v4, v5, hr, h2, h3, h13, h14, h15, rfl⟩
  cases m with
  | zero => cases hr
  | succ m_0 =>
    rw [d_syntax_used_l0] at hr
    generalize hrec_0 : d_syntax_used_l0 p0 n m_0 = rec_l_0 at hr
    rw [d_syntax_used_l0b] at hr
    unfold x_syntax_used_l8
    refine x_seq ?_
    refine x_region ?_
    unfold x_syntax_used_r4
    refine o_bin (e_t h15) (e_t h14) (b_lss ?_)
    refine run_nil ?_
    refine k_then ?_
    refine x_seq ?_
    refine x_condL (e_t e_hit) hr (fun hr => ?_) (fun hr => ?_)
    rotate_left
    · refine x_exit ?_
      refine k_thenE ?_
      refine k_thenE ?_
      refine k_inE ?_
      refine k_then ?_
      refine x_seq ?_
      refine x_region ?_
      unfold x_syntax_used_r9
      refine o_loadA (e_t (e_miss rfl h3)) ((g_ext rfl 5).trans rfl) (Nat.le_of_ble_eq_true rfl) (by exact rfl) ?_
      refine o_store (e_t (e_m2 rfl h2)) ((g_ext rfl 1).trans rfl) (e_t e_hit) pc_agg rfl (Nat.le_of_ble_eq_true rfl) (by exact rfl) (cells' := [(.map (st.length + 2)), (.map (st.length + 3)), (.map (st.length + 4))]) (by exact rfl) (s_ext rfl _ _) ?_
      refine run_nil ?_
      refine k_then ?_
      refine x_ret ?_
      cases hr
      subst hm
      refine ⟨_, (gh_kill 0 rfl), ?_⟩
      exact ⟨_, st.length + 5, (r_cellA (e_m2 rfl h2) ((g_ext rfl 1).trans rfl) (Nat.le_of_ble_eq_true rfl) (by exact rfl) r_nil), Nat.le_add_right _ _, own_end (by simp [pack, cutV, belowB, belowB.belowL]) (cut_own (l0 := [.dead, (.box [(.map (st.length + 2)), (.map (st.length + 3)), (.map (st.length + 4))]), (.map ty_string ty_bool v2), (.map ty_string ty_bool v3), (.map ty_string ty_bool v4)]) (l1 := _) hwf rfl rfl (by simp [cutC, cutV, belowB, belowB.belowL]) hst) h⟩
    refine x_skip ?_
    refine k_then ?_
    refine x_seq ?_
    refine x_block ?_
    refine x_seq ?_
    refine x_region ?_
    unfold x_syntax_used_r5
    refine o_idxL (row := T_api_Stmt.row) (ar_of (e_t (e_miss rfl h13)) ar_d) (e_t (e_miss rfl h15)) hr T_api_Stmt.row_eq (fun _ => rfl) (fun v6 hr => ?_)
    refine o_loadDA (e_t e_hit) (Nat.le_of_ble_eq_true rfl) (by exact rfl) ?_
    refine o_alloc (k := 6) rfl rfl ?_
    refine o_store (e_t e_hit) ((g_ext rfl 6).trans rfl) (e_t (e_miss rfl e_hit)) pc_agg rfl (Nat.le_of_ble_eq_true rfl) (by exact rfl) (cells' := [(.d (.int .i64 v6.Op)), (.d (.str v6.Name)), (.d (.str v6.Src)), (.d (.int .i64 v6.N)), (.d (.sl (List.map rS v6.Cols))), (.d (.sl (List.map T_api_Expr.row v6.Exprs))), (.d (.sl (List.map T_api_Stmt.row v6.Body))), (.d (.sl (List.map T_api_Stmt.row v6.Else)))]) (by exact rfl) (s_ext rfl _ _) ?_
    refine run_nil ?_
    refine k_then ?_
    refine x_region ?_
    unfold x_syntax_used_r6
    refine o_loadA (e_t (e_m4 rfl h3)) ((g_ext rfl 5).trans rfl) (Nat.le_of_ble_eq_true rfl) (by exact rfl) ?_
    refine o_loadA (e_t (e_miss rfl e_hit)) ((g_ext rfl 6).trans rfl) (Nat.le_of_ble_eq_true rfl) (by exact rfl) ?_
    obtain ⟨v7, hc_v7, hr⟩ := bind_some hr
    refine o_call (a_cons (e_t (e_miss rfl e_hit)) (fz_agg (f_cons f_map (f_cons f_map (f_cons f_map f_nil)))) (a_cons (e_t e_hit) (fz_agg (f_cons f_d (f_cons f_d (f_cons f_d (f_cons f_d (f_cons f_d (f_cons f_d (f_cons f_d (f_cons f_d f_nil))))))))) a_nil)) ?_
    refine c_syntax_uses_stmt n v2 v3 v4 v6 hc_v7 ((g_ext rfl 2).trans rfl) ((g_ext rfl 3).trans rfl) ((g_ext rfl 4).trans rfl) (by simp) (by simp) (by simp) ((congrArg (List.set · _ _) ((congrArg (List.set · _ _) (s_ext rfl _ _)).trans (s_ext rfl _ _))).trans (s_ext rfl _ _)) ?_
    refine run_nil ?_
    refine k_inN ?_
    refine k_then ?_
    refine x_region ?_
    unfold x_syntax_used_r7
    refine o_bin (e_t (e_m4 rfl (e_m2 rfl (e_miss rfl h15)))) e_c (b_add ?_)
    refine o_move (e_t e_hit) ?_
    refine run_nil ?_
    refine k_then ?_
    exact ⟨m_0, _, Nat.lt_succ_self m_0, Ghost.cut _ (st.length + 6) (Nat.le_add_right _ _), v7.1, v7.2.1, v7.2.2, (IntKind.wrap .i64 (v5 + (1 : Int))), (by rw [hrec_0]; exact hr), ((congrArg (cutV _) (e_m4 rfl (e_m4 rfl (e_miss rfl h2)))).trans (by simp [cutV, belowB])), ((congrArg (cutV _) (e_m4 rfl (e_m4 rfl (e_miss rfl h3)))).trans (by simp [cutV, belowB])), ((congrArg (cutV _) (e_m4 rfl (e_m4 rfl (e_miss rfl h13)))).trans (v_d)), ((congrArg (cutV _) (e_m4 rfl (e_m4 rfl (e_miss rfl h14)))).trans (v_d)), ((congrArg (cutV _) e_hit).trans (v_d)), (cut_keep (l0 := [(.box [(.d (.str p0.Name)), (.d (.str p0.From)), (.d (.str p0.At)), (.d (.int .i64 p0.Fuel)), (.d (.sl (List.map T_api_Column.row p0.Params))), (.d (.sl (List.map T_api_Stmt.row p0.Body)))]), (.box [.nilm, .nilm, .nilm]), (.map ty_string ty_bool v7.1), (.map ty_string ty_bool v7.2.1), (.map ty_string ty_bool v7.2.2), (.box [(.map (st.length + 2)), (.map (st.length + 3)), (.map (st.length + 4))])]) (l1 := _) hwf rfl rfl (by simp [cutC, cutV, belowB, belowB.belowL]))⟩
end Go.Ax
