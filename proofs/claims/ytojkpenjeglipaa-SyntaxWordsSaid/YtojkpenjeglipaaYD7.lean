import Derived.Test.YtojkpenjeglipaaYT
import Derived.Test.YtojkpenjeglipaaVX
import Derived.Test.YtojkpenjeglipaaPrim
import Derived.Test.YtojkpenjeglipaaYD0
import Derived.Test.YtojkpenjeglipaaYD1
import Derived.Test.YtojkpenjeglipaaYD2
import Derived.Test.YtojkpenjeglipaaYD3
import Derived.Test.YtojkpenjeglipaaYD4
import Derived.Test.YtojkpenjeglipaaYD5
import Derived.Test.YtojkpenjeglipaaYD6
set_option linter.unusedVariables false
set_option linter.unusedSimpArgs false
namespace Go.Ax
attribute [local irreducible] xexec xops xpre xrun xacc thenX inBlockX RetK XLoop upd ev u0 frzA frz asRows binK mmD bnd okAll fillP fillOk rowsOf toDs frz1 pack cutV tokC tokArgs
variable {st : List Content}

def d_syntax_builtExpr_1_b (s_syntax_builtExpr_1 : T_api_Expr → Option Bool) (s_syntax_builtExpr : T_api_Expr → Option Bool) (p0 : T_api_Expr) : Option Bool :=
  ((s_syntax_builtExpr p0).bind fun v1 => some (!v1))
set_option maxRecDepth 100000 in
set_option maxHeartbeats 4000000 in
theorem cb_syntax_builtExpr_1 (s_syntax_builtExpr_1 : T_api_Expr → Option Bool) (s_syntax_builtExpr : T_api_Expr → Option Bool) (p0 : T_api_Expr) (H_s_syntax_builtExpr_1 : ∀ (p0 : T_api_Expr) {r : Bool}, s_syntax_builtExpr_1 p0 = some r → ∀ {st : List Content} {K : PV → List Content → Prop} (h : K (.d (.bool r)) st), ACalls PR n_syntax_builtExpr_1 [(.agg [(.d (.int .i64 p0.Op)), (.d (.int .i64 p0.N)), (.d (.str p0.S)), (.d (.str p0.Name)), (.d (.str p0.Src)), (.d (.sl (List.map T_api_Expr.row p0.Args)))])] st K) (H_s_syntax_builtExpr : ∀ (p0 : T_api_Expr) {r : Bool}, s_syntax_builtExpr p0 = some r → ∀ {st : List Content} {K : PV → List Content → Prop} (h : K (.d (.bool r)) st), ACalls PR n_syntax_builtExpr [(.agg [(.d (.int .i64 p0.Op)), (.d (.int .i64 p0.N)), (.d (.str p0.S)), (.d (.str p0.Name)), (.d (.str p0.Src)), (.d (.sl (List.map T_api_Expr.row p0.Args)))])] st K) {r : Bool} (hr : d_syntax_builtExpr_1_b s_syntax_builtExpr_1 s_syntax_builtExpr p0 = some r) {K : PV → List Content → Prop} (h : K (.d (.bool r)) st) : ACalls PR n_syntax_builtExpr_1 [(.agg [(.d (.int .i64 p0.Op)), (.d (.int .i64 p0.N)), (.d (.str p0.S)), (.d (.str p0.Name)), (.d (.str p0.Src)), (.d (.sl (List.map T_api_Expr.row p0.Args)))])] st K := by
  refine ACalls.of F_syntax_builtExpr_1 (Nat.le_of_ble_eq_true rfl) fun hwf => ?_
  rw [args0_1]
  refine entry_nil ?_
  unfold x_syntax_builtExpr_1
  rw [d_syntax_builtExpr_1_b] at hr
  refine x_seq ?_
  refine x_region ?_
  unfold x_syntax_builtExpr_1_r0
  refine o_box (k := 0) rfl rfl (e_t e_hit) pc_agg (by exact rfl) ?_
  refine o_move e_c ?_
  refine run_nil ?_
  refine k_then ?_
  refine x_seq ?_
  refine x_region ?_
  unfold x_syntax_builtExpr_1_r1
  refine o_loadA (e_t (e_miss rfl e_hit)) ((g_ext rfl 0).trans rfl) (Nat.le_of_ble_eq_true rfl) (by exact rfl) ?_
  obtain ⟨v1, hc_v1, hr⟩ := bind_some hr
  refine o_call (a_cons (e_t e_hit) (fz_agg (f_cons f_d (f_cons f_d (f_cons f_d (f_cons f_d (f_cons f_d (f_cons f_d f_nil))))))) a_nil) ?_
  refine H_s_syntax_builtExpr p0 hc_v1 ?_
  refine o_not (e_t e_hit) ?_
  refine o_move (e_t e_hit) ?_
  refine run_nil ?_
  refine k_then ?_
  refine x_ret ?_
  cases hr
  exact retK (r_tmp e_hit r_nil) (p_one fz_d v_d) (cutS_wf hwf) h
def d_syntax_builtExpr_j0 (p0 : T_api_Expr) (s_syntax_builtExpr_1 : T_api_Expr → Option Bool) (n : Nat) (v2 : Bool) : Option Bool :=
  (bif v2 then ((d_slices_ContainsFunc_api_Expr_api_Expr n p0.Args (fun (a0 : T_api_Expr) => s_syntax_builtExpr_1 a0)).bind fun v3 => some (!v3)) else some false)
def d_syntax_builtExpr_b (s_syntax_builtExpr_1 : T_api_Expr → Option Bool) (s_syntax_builtExpr : T_api_Expr → Option Bool) (n : Nat) (p0 : T_api_Expr) : Option Bool :=
  (bif (decide (((d_syntax_args p0.Op).1) = (p0.Args.length : Int))) then ((d_syntax_fields n p0).bind fun v1 => (d_syntax_builtExpr_j0 p0 s_syntax_builtExpr_1 n v1)) else (d_syntax_builtExpr_j0 p0 s_syntax_builtExpr_1 n false))
set_option maxRecDepth 100000 in
set_option maxHeartbeats 4000000 in
theorem cb_syntax_builtExpr (s_syntax_builtExpr_1 : T_api_Expr → Option Bool) (s_syntax_builtExpr : T_api_Expr → Option Bool) (n : Nat) (p0 : T_api_Expr) (H_s_syntax_builtExpr_1 : ∀ (p0 : T_api_Expr) {r : Bool}, s_syntax_builtExpr_1 p0 = some r → ∀ {st : List Content} {K : PV → List Content → Prop} (h : K (.d (.bool r)) st), ACalls PR n_syntax_builtExpr_1 [(.agg [(.d (.int .i64 p0.Op)), (.d (.int .i64 p0.N)), (.d (.str p0.S)), (.d (.str p0.Name)), (.d (.str p0.Src)), (.d (.sl (List.map T_api_Expr.row p0.Args)))])] st K) (H_s_syntax_builtExpr : ∀ (p0 : T_api_Expr) {r : Bool}, s_syntax_builtExpr p0 = some r → ∀ {st : List Content} {K : PV → List Content → Prop} (h : K (.d (.bool r)) st), ACalls PR n_syntax_builtExpr [(.agg [(.d (.int .i64 p0.Op)), (.d (.int .i64 p0.N)), (.d (.str p0.S)), (.d (.str p0.Name)), (.d (.str p0.Src)), (.d (.sl (List.map T_api_Expr.row p0.Args)))])] st K) {r : Bool} (hr : d_syntax_builtExpr_b s_syntax_builtExpr_1 s_syntax_builtExpr n p0 = some r) {K : PV → List Content → Prop} (h : K (.d (.bool r)) st) : ACalls PR n_syntax_builtExpr [(.agg [(.d (.int .i64 p0.Op)), (.d (.int .i64 p0.N)), (.d (.str p0.S)), (.d (.str p0.Name)), (.d (.str p0.Src)), (.d (.sl (List.map T_api_Expr.row p0.Args)))])] st K := by
  refine ACalls.of F_syntax_builtExpr (Nat.le_of_ble_eq_true rfl) fun hwf => ?_
  rw [args0_1]
  refine entry_nil ?_
  unfold x_syntax_builtExpr
  rw [d_syntax_builtExpr_b] at hr
  refine x_seq ?_
  refine x_region ?_
  unfold x_syntax_builtExpr_r0
  refine o_box (k := 0) rfl rfl (e_t e_hit) pc_agg (by exact rfl) ?_
  refine o_move e_c ?_
  refine run_nil ?_
  refine k_then ?_
  refine x_seq ?_
  refine x_region ?_
  unfold x_syntax_builtExpr_r1
  refine o_fa (e_t (e_miss rfl e_hit)) (by exact rfl) ?_
  refine o_load (e_t e_hit) ((g_ext rfl 0).trans rfl) (by exact rfl) ?_
  refine o_call (a_cons (e_t e_hit) fz_d a_nil) ?_
  refine c_syntax_args p0.Op rfl ?_
  refine o_move (e_t e_hit) ?_
  refine o_ext (e_t e_hit) (by exact rfl) ?_
  refine o_ext (e_t (e_miss rfl e_hit)) (by exact rfl) ?_
  refine o_move (e_t (e_miss rfl e_hit)) ?_
  refine o_move (e_t (e_miss rfl e_hit)) ?_
  refine run_nil ?_
  refine k_then ?_
  refine x_seq ?_
  refine x_region ?_
  unfold x_syntax_builtExpr_r2
  refine run_join (fun f st' => ∃ (v2 : Bool), d_syntax_builtExpr_j0 p0 s_syntax_builtExpr_1 n v2 = some r ∧ f 1 = (.ptr (st.length + 0) 0) ∧ f 19 = (.d (.bool v2)) ∧ st' = st ++ [(.box [(.d (.int .i64 p0.Op)), (.d (.int .i64 p0.N)), (.d (.str p0.S)), (.d (.str p0.Name)), (.d (.str p0.Src)), (.d (.sl (List.map T_api_Expr.row p0.Args)))])]) ?_ ?_
  · unfold x_syntax_builtExpr_r2s0
    refine o_move (e_t (e_miss rfl e_hit)) ?_
    refine o_fa (e_t (e_m4 rfl (e_m4 rfl (e_m2 rfl e_hit)))) (by exact rfl) ?_
    refine o_load (e_t e_hit) ((g_ext rfl 0).trans rfl) (by exact rfl) ?_
    refine o_lenL (row := T_api_Expr.row) (ar_of (e_t e_hit) ar_d) ?_
    refine o_bin (e_t (e_m2 rfl (e_miss rfl e_hit))) (e_t e_hit) (b_eql ?_)
    refine o_move (e_t e_hit) ?_
    refine g_splitL e_hit hr (fun hr => ?_) (fun hr => ?_)
    rotate_left
    · refine g_skip e_hit ?_
      refine g_skip (e_miss rfl e_hit) ?_
      refine o_pick_f (e_t (e_m2 rfl e_hit)) e_c ?_
      refine run_nil ?_
      exact ⟨false, hr, (e_m4 rfl (e_m4 rfl (e_m4 rfl (e_m4 rfl (e_m2 rfl (e_miss rfl e_hit)))))), e_hit, rfl⟩
    refine g_run e_hit ?_
    refine o_loadA (e_t (e_m4 rfl (e_m4 rfl (e_m4 rfl (e_m4 rfl e_hit))))) ((g_ext rfl 0).trans rfl) (Nat.le_of_ble_eq_true rfl) (by exact rfl) ?_
    refine g_run (e_miss rfl e_hit) ?_
    obtain ⟨v1, hc_v1, hr⟩ := bind_some hr
    refine o_call (a_cons (e_t e_hit) (fz_agg (f_cons f_d (f_cons f_d (f_cons f_d (f_cons f_d (f_cons f_d (f_cons f_d f_nil))))))) a_nil) ?_
    refine c_syntax_fields n p0 hc_v1 ?_
    refine o_pick_t (e_t (e_m2 rfl e_hit)) (e_t e_hit) ?_
    refine run_nil ?_
    exact ⟨v1, hr, (e_m4 rfl (e_m4 rfl (e_m4 rfl (e_m4 rfl (e_m2 rfl (e_miss rfl e_hit)))))), e_hit, rfl⟩
  rintro f st' ⟨v2, hr, h1, h19, rfl⟩
  rw [d_syntax_builtExpr_j0] at hr
  refine run_app ?_
  unfold x_syntax_builtExpr_r2s1
  refine o_move (e_t h19) ?_
  refine g_splitL e_hit hr (fun hr => ?_) (fun hr => ?_)
  rotate_left
  · refine g_skip e_hit ?_
    refine g_skip (e_miss rfl e_hit) ?_
    refine g_skip (e_m2 rfl e_hit) ?_
    refine g_skip (e_m2 rfl (e_miss rfl e_hit)) ?_
    refine o_pick_f (e_t (e_m4 rfl e_hit)) e_c ?_
    refine run_nil ?_
    unfold x_syntax_builtExpr_r2s2
    refine o_move (e_t e_hit) ?_
    refine run_nil ?_
    refine k_then ?_
    refine x_ret ?_
    cases hr
    exact retK (r_tmp e_hit r_nil) (p_one fz_d v_d) (cutS_wf hwf) h
  refine g_run e_hit ?_
  refine o_fa (e_t (e_m2 rfl h1)) (by exact rfl) ?_
  refine g_run (e_miss rfl e_hit) ?_
  refine o_load (e_t e_hit) ((g_ext rfl 0).trans rfl) (by exact rfl) ?_
  refine g_run (e_m2 rfl e_hit) ?_
  obtain ⟨v3, hc_v3, hr⟩ := bind_some hr
  refine o_call (a_cons (e_t e_hit) fz_d (a_cons e_c fz_fn a_nil)) ?_
  refine c_slices_ContainsFunc_api_Expr_api_Expr n p0.Args (fun (a0 : T_api_Expr) => s_syntax_builtExpr_1 a0) (fun a0 {_} hr {_ _} hk => H_s_syntax_builtExpr_1 a0 hr hk) (fun _ => rfl) hc_v3 ?_
  refine g_run (e_m2 rfl (e_miss rfl e_hit)) ?_
  refine o_not (e_t e_hit) ?_
  refine o_pick_t (e_t (e_m4 rfl e_hit)) (e_t e_hit) ?_
  refine run_nil ?_
  unfold x_syntax_builtExpr_r2s2
  refine o_move (e_t e_hit) ?_
  refine run_nil ?_
  refine k_then ?_
  refine x_ret ?_
  cases hr
  exact retK (r_tmp e_hit r_nil) (p_one fz_d v_d) (cutS_wf hwf) h
mutual
def d_syntax_builtExpr_1 : Nat → T_api_Expr → Option Bool
  | 0, _ => none
  | n + 1, p0 => d_syntax_builtExpr_1_b (d_syntax_builtExpr_1 n) (d_syntax_builtExpr n) p0
def d_syntax_builtExpr : Nat → T_api_Expr → Option Bool
  | 0, _ => none
  | n + 1, p0 => d_syntax_builtExpr_b (d_syntax_builtExpr_1 n) (d_syntax_builtExpr n) n p0
end
theorem cs_syntax_builtExpr_1 : ∀ n : Nat, (∀ (p0 : T_api_Expr) {r : Bool}, d_syntax_builtExpr_1 n p0 = some r → ∀ {st : List Content} {K : PV → List Content → Prop} (h : K (.d (.bool r)) st), ACalls PR n_syntax_builtExpr_1 [(.agg [(.d (.int .i64 p0.Op)), (.d (.int .i64 p0.N)), (.d (.str p0.S)), (.d (.str p0.Name)), (.d (.str p0.Src)), (.d (.sl (List.map T_api_Expr.row p0.Args)))])] st K) ∧ (∀ (p0 : T_api_Expr) {r : Bool}, d_syntax_builtExpr n p0 = some r → ∀ {st : List Content} {K : PV → List Content → Prop} (h : K (.d (.bool r)) st), ACalls PR n_syntax_builtExpr [(.agg [(.d (.int .i64 p0.Op)), (.d (.int .i64 p0.N)), (.d (.str p0.S)), (.d (.str p0.Name)), (.d (.str p0.Src)), (.d (.sl (List.map T_api_Expr.row p0.Args)))])] st K)
  | 0 => ⟨fun _ _ hr => (by rw [d_syntax_builtExpr_1] at hr; cases hr), fun _ _ hr => (by rw [d_syntax_builtExpr] at hr; cases hr)⟩
  | n + 1 => ⟨fun p0 _ hr _ _ h => cb_syntax_builtExpr_1 (d_syntax_builtExpr_1 n) (d_syntax_builtExpr n) p0 (cs_syntax_builtExpr_1 n).1 (cs_syntax_builtExpr_1 n).2 (by rw [d_syntax_builtExpr_1] at hr; exact hr) h, fun p0 _ hr _ _ h => cb_syntax_builtExpr (d_syntax_builtExpr_1 n) (d_syntax_builtExpr n) n p0 (cs_syntax_builtExpr_1 n).1 (cs_syntax_builtExpr_1 n).2 (by rw [d_syntax_builtExpr] at hr; exact hr) h⟩
theorem c_syntax_builtExpr_1 (n : Nat) (p0 : T_api_Expr) {r : Bool} (hr : d_syntax_builtExpr_1 n p0 = some r) {K : PV → List Content → Prop} (h : K (.d (.bool r)) st) : ACalls PR n_syntax_builtExpr_1 [(.agg [(.d (.int .i64 p0.Op)), (.d (.int .i64 p0.N)), (.d (.str p0.S)), (.d (.str p0.Name)), (.d (.str p0.Src)), (.d (.sl (List.map T_api_Expr.row p0.Args)))])] st K := (cs_syntax_builtExpr_1 n).1 p0 hr h
theorem c_syntax_builtExpr (n : Nat) (p0 : T_api_Expr) {r : Bool} (hr : d_syntax_builtExpr n p0 = some r) {K : PV → List Content → Prop} (h : K (.d (.bool r)) st) : ACalls PR n_syntax_builtExpr [(.agg [(.d (.int .i64 p0.Op)), (.d (.int .i64 p0.N)), (.d (.str p0.S)), (.d (.str p0.Name)), (.d (.str p0.Src)), (.d (.sl (List.map T_api_Expr.row p0.Args)))])] st K := (cs_syntax_builtExpr_1 n).2 p0 hr h

def d_syntax_built_1 (n : Nat) (p0 : T_api_Expr) : Option Bool :=
  ((d_syntax_builtExpr n p0).bind fun v1 => some (!v1))
set_option maxRecDepth 100000 in
set_option maxHeartbeats 4000000 in
theorem c_syntax_built_1 (n : Nat) (p0 : T_api_Expr) {r : Bool} (hr : d_syntax_built_1 n p0 = some r) {K : PV → List Content → Prop} (h : K (.d (.bool r)) st) : ACalls PR n_syntax_built_1 [(.agg [(.d (.int .i64 p0.Op)), (.d (.int .i64 p0.N)), (.d (.str p0.S)), (.d (.str p0.Name)), (.d (.str p0.Src)), (.d (.sl (List.map T_api_Expr.row p0.Args)))])] st K := by
  refine ACalls.of F_syntax_built_1 (Nat.le_of_ble_eq_true rfl) fun hwf => ?_
  rw [args0_1]
  refine entry_nil ?_
  unfold x_syntax_built_1
  rw [d_syntax_built_1] at hr
  refine x_seq ?_
  refine x_region ?_
  unfold x_syntax_built_1_r0
  refine o_box (k := 0) rfl rfl (e_t e_hit) pc_agg (by exact rfl) ?_
  refine o_move e_c ?_
  refine run_nil ?_
  refine k_then ?_
  refine x_seq ?_
  refine x_region ?_
  unfold x_syntax_built_1_r1
  refine o_loadA (e_t (e_miss rfl e_hit)) ((g_ext rfl 0).trans rfl) (Nat.le_of_ble_eq_true rfl) (by exact rfl) ?_
  obtain ⟨v1, hc_v1, hr⟩ := bind_some hr
  refine o_call (a_cons (e_t e_hit) (fz_agg (f_cons f_d (f_cons f_d (f_cons f_d (f_cons f_d (f_cons f_d (f_cons f_d f_nil))))))) a_nil) ?_
  refine c_syntax_builtExpr n p0 hc_v1 ?_
  refine o_not (e_t e_hit) ?_
  refine o_move (e_t e_hit) ?_
  refine run_nil ?_
  refine k_then ?_
  refine x_ret ?_
  cases hr
  exact retK (r_tmp e_hit r_nil) (p_one fz_d v_d) (cutS_wf hwf) h

def d_syntax_built_j1 (p0 : T_api_Stmt) (s_syntax_blocks : (List T_api_Stmt) → Option Bool) (v5 : Bool) : Option Bool :=
  (bif v5 then ((s_syntax_blocks p0.Else).bind fun v6 => some v6) else some false)
def d_syntax_built_j0 (p0 : T_api_Stmt) (s_syntax_blocks : (List T_api_Stmt) → Option Bool) (v3 : Bool) : Option Bool :=
  (bif v3 then ((s_syntax_blocks p0.Body).bind fun v4 => (d_syntax_built_j1 p0 s_syntax_blocks v4)) else (d_syntax_built_j1 p0 s_syntax_blocks false))
def d_syntax_built_b (s_syntax_built : T_api_Stmt → Option Bool) (s_syntax_blocks_1 : T_api_Stmt → Option Bool) (s_syntax_blocks : (List T_api_Stmt) → Option Bool) (n : Nat) (p0 : T_api_Stmt) : Option Bool :=
  ((d_syntax_shape n p0).bind fun v1 => (bif v1 then ((d_slices_ContainsFunc_api_Expr_api_Expr n p0.Exprs (fun (a0 : T_api_Expr) => d_syntax_built_1 n a0)).bind fun v2 => (d_syntax_built_j0 p0 s_syntax_blocks (!v2))) else (d_syntax_built_j0 p0 s_syntax_blocks false)))
set_option maxRecDepth 100000 in
set_option maxHeartbeats 4000000 in
theorem cb_syntax_built (s_syntax_built : T_api_Stmt → Option Bool) (s_syntax_blocks_1 : T_api_Stmt → Option Bool) (s_syntax_blocks : (List T_api_Stmt) → Option Bool) (n : Nat) (p0 : T_api_Stmt) (H_s_syntax_built : ∀ (p0 : T_api_Stmt) {r : Bool}, s_syntax_built p0 = some r → ∀ {st : List Content} {K : PV → List Content → Prop} (h : K (.d (.bool r)) st), ACalls PR n_syntax_built [(.agg [(.d (.int .i64 p0.Op)), (.d (.str p0.Name)), (.d (.str p0.Src)), (.d (.int .i64 p0.N)), (.d (.sl (List.map rS p0.Cols))), (.d (.sl (List.map T_api_Expr.row p0.Exprs))), (.d (.sl (List.map T_api_Stmt.row p0.Body))), (.d (.sl (List.map T_api_Stmt.row p0.Else)))])] st K) (H_s_syntax_blocks_1 : ∀ (p0 : T_api_Stmt) {r : Bool}, s_syntax_blocks_1 p0 = some r → ∀ {st : List Content} {K : PV → List Content → Prop} (h : K (.d (.bool r)) st), ACalls PR n_syntax_blocks_1 [(.agg [(.d (.int .i64 p0.Op)), (.d (.str p0.Name)), (.d (.str p0.Src)), (.d (.int .i64 p0.N)), (.d (.sl (List.map rS p0.Cols))), (.d (.sl (List.map T_api_Expr.row p0.Exprs))), (.d (.sl (List.map T_api_Stmt.row p0.Body))), (.d (.sl (List.map T_api_Stmt.row p0.Else)))])] st K) (H_s_syntax_blocks : ∀ (p0 : (List T_api_Stmt)) {r : Bool}, s_syntax_blocks p0 = some r → ∀ {st : List Content} {K : PV → List Content → Prop} (h : K (.d (.bool r)) st), ACalls PR n_syntax_blocks [(.d (.sl (List.map T_api_Stmt.row p0)))] st K) {r : Bool} (hr : d_syntax_built_b s_syntax_built s_syntax_blocks_1 s_syntax_blocks n p0 = some r) {K : PV → List Content → Prop} (h : K (.d (.bool r)) st) : ACalls PR n_syntax_built [(.agg [(.d (.int .i64 p0.Op)), (.d (.str p0.Name)), (.d (.str p0.Src)), (.d (.int .i64 p0.N)), (.d (.sl (List.map rS p0.Cols))), (.d (.sl (List.map T_api_Expr.row p0.Exprs))), (.d (.sl (List.map T_api_Stmt.row p0.Body))), (.d (.sl (List.map T_api_Stmt.row p0.Else)))])] st K := by
  refine ACalls.of F_syntax_built (Nat.le_of_ble_eq_true rfl) fun hwf => ?_
  rw [args0_1]
  refine entry_nil ?_
  unfold x_syntax_built
  rw [d_syntax_built_b] at hr
  refine x_seq ?_
  refine x_region ?_
  unfold x_syntax_built_r0
  refine o_box (k := 0) rfl rfl (e_t e_hit) pc_agg (by exact rfl) ?_
  refine o_move e_c ?_
  refine run_nil ?_
  refine k_then ?_
  refine x_seq ?_
  refine x_region ?_
  unfold x_syntax_built_r1
  refine run_join (fun f st' => ∃ (v3 : Bool), d_syntax_built_j0 p0 s_syntax_blocks v3 = some r ∧ f 1 = (.ptr (st.length + 0) 0) ∧ f 10 = (.d (.bool v3)) ∧ st' = st ++ [(.box [(.d (.int .i64 p0.Op)), (.d (.str p0.Name)), (.d (.str p0.Src)), (.d (.int .i64 p0.N)), (.d (.sl (List.map rS p0.Cols))), (.d (.sl (List.map T_api_Expr.row p0.Exprs))), (.d (.sl (List.map T_api_Stmt.row p0.Body))), (.d (.sl (List.map T_api_Stmt.row p0.Else)))])]) ?_ ?_
  · unfold x_syntax_built_r1s0
    refine o_loadA (e_t (e_miss rfl e_hit)) ((g_ext rfl 0).trans rfl) (Nat.le_of_ble_eq_true rfl) (by exact rfl) ?_
    obtain ⟨v1, hc_v1, hr⟩ := bind_some hr
    refine o_call (a_cons (e_t e_hit) (fz_agg (f_cons f_d (f_cons f_d (f_cons f_d (f_cons f_d (f_cons f_d (f_cons f_d (f_cons f_d (f_cons f_d f_nil))))))))) a_nil) ?_
    refine c_syntax_shape n p0 hc_v1 ?_
    refine o_move (e_t e_hit) ?_
    refine g_splitL e_hit hr (fun hr => ?_) (fun hr => ?_)
    rotate_left
    · refine g_skip e_hit ?_
      refine g_skip (e_miss rfl e_hit) ?_
      refine g_skip (e_m2 rfl e_hit) ?_
      refine g_skip (e_m2 rfl (e_miss rfl e_hit)) ?_
      refine o_pick_f (e_t (e_m4 rfl e_hit)) e_c ?_
      refine run_nil ?_
      exact ⟨false, hr, (e_m4 rfl (e_m4 rfl (e_m2 rfl e_hit))), e_hit, rfl⟩
    refine g_run e_hit ?_
    refine o_fa (e_t (e_m4 rfl (e_miss rfl e_hit))) (by exact rfl) ?_
    refine g_run (e_miss rfl e_hit) ?_
    refine o_load (e_t e_hit) ((g_ext rfl 0).trans rfl) (by exact rfl) ?_
    refine g_run (e_m2 rfl e_hit) ?_
    obtain ⟨v2, hc_v2, hr⟩ := bind_some hr
    refine o_call (a_cons (e_t e_hit) fz_d (a_cons e_c fz_fn a_nil)) ?_
    refine c_slices_ContainsFunc_api_Expr_api_Expr n p0.Exprs (fun (a0 : T_api_Expr) => d_syntax_built_1 n a0) (fun a0 {_} hr {_ _} hk => c_syntax_built_1 n a0 hr hk) (fun _ => rfl) hc_v2 ?_
    refine g_run (e_m2 rfl (e_miss rfl e_hit)) ?_
    refine o_not (e_t e_hit) ?_
    refine o_pick_t (e_t (e_m4 rfl e_hit)) (e_t e_hit) ?_
    refine run_nil ?_
    exact ⟨(!v2), hr, (e_m4 rfl (e_m4 rfl (e_m2 rfl e_hit))), e_hit, rfl⟩
  rintro f st' ⟨v3, hr, h1, h10, rfl⟩
  rw [d_syntax_built_j0] at hr
  refine run_join (fun f st' => ∃ (v5 : Bool), d_syntax_built_j1 p0 s_syntax_blocks v5 = some r ∧ f 1 = (.ptr (st.length + 0) 0) ∧ f 15 = (.d (.bool v5)) ∧ st' = st ++ [(.box [(.d (.int .i64 p0.Op)), (.d (.str p0.Name)), (.d (.str p0.Src)), (.d (.int .i64 p0.N)), (.d (.sl (List.map rS p0.Cols))), (.d (.sl (List.map T_api_Expr.row p0.Exprs))), (.d (.sl (List.map T_api_Stmt.row p0.Body))), (.d (.sl (List.map T_api_Stmt.row p0.Else)))])]) ?_ ?_
  · unfold x_syntax_built_r1s1
    refine o_move (e_t h10) ?_
    refine g_splitL e_hit hr (fun hr => ?_) (fun hr => ?_)
    rotate_left
    · refine g_skip e_hit ?_
      refine g_skip (e_miss rfl e_hit) ?_
      refine g_skip (e_m2 rfl e_hit) ?_
      refine o_pick_f (e_t (e_m2 rfl (e_miss rfl e_hit))) e_c ?_
      refine run_nil ?_
      exact ⟨false, hr, (e_m4 rfl (e_m2 rfl h1)), e_hit, rfl⟩
    refine g_run e_hit ?_
    refine o_fa (e_t (e_m2 rfl h1)) (by exact rfl) ?_
    refine g_run (e_miss rfl e_hit) ?_
    refine o_load (e_t e_hit) ((g_ext rfl 0).trans rfl) (by exact rfl) ?_
    refine g_run (e_m2 rfl e_hit) ?_
    obtain ⟨v4, hc_v4, hr⟩ := bind_some hr
    refine o_call (a_cons (e_t e_hit) fz_d a_nil) ?_
    refine H_s_syntax_blocks p0.Body hc_v4 ?_
    refine o_pick_t (e_t (e_m2 rfl (e_miss rfl e_hit))) (e_t e_hit) ?_
    refine run_nil ?_
    exact ⟨v4, hr, (e_m4 rfl (e_m2 rfl h1)), e_hit, rfl⟩
  rintro f st' ⟨v5, hr, h1, h15, rfl⟩
  rw [d_syntax_built_j1] at hr
  refine run_app ?_
  unfold x_syntax_built_r1s2
  refine o_move (e_t h15) ?_
  refine g_splitL e_hit hr (fun hr => ?_) (fun hr => ?_)
  rotate_left
  · refine g_skip e_hit ?_
    refine g_skip (e_miss rfl e_hit) ?_
    refine g_skip (e_m2 rfl e_hit) ?_
    refine o_pick_f (e_t (e_m2 rfl (e_miss rfl e_hit))) e_c ?_
    refine run_nil ?_
    unfold x_syntax_built_r1s3
    refine o_move (e_t e_hit) ?_
    refine run_nil ?_
    refine k_then ?_
    refine x_ret ?_
    cases hr
    exact retK (r_tmp e_hit r_nil) (p_one fz_d v_d) (cutS_wf hwf) h
  refine g_run e_hit ?_
  refine o_fa (e_t (e_m2 rfl h1)) (by exact rfl) ?_
  refine g_run (e_miss rfl e_hit) ?_
  refine o_load (e_t e_hit) ((g_ext rfl 0).trans rfl) (by exact rfl) ?_
  refine g_run (e_m2 rfl e_hit) ?_
  obtain ⟨v6, hc_v6, hr⟩ := bind_some hr
  refine o_call (a_cons (e_t e_hit) fz_d a_nil) ?_
  refine H_s_syntax_blocks p0.Else hc_v6 ?_
  refine o_pick_t (e_t (e_m2 rfl (e_miss rfl e_hit))) (e_t e_hit) ?_
  refine run_nil ?_
  unfold x_syntax_built_r1s3
  refine o_move (e_t e_hit) ?_
  refine run_nil ?_
  refine k_then ?_
  refine x_ret ?_
  cases hr
  exact retK (r_tmp e_hit r_nil) (p_one fz_d v_d) (cutS_wf hwf) h
def d_syntax_blocks_1_b (s_syntax_built : T_api_Stmt → Option Bool) (s_syntax_blocks_1 : T_api_Stmt → Option Bool) (s_syntax_blocks : (List T_api_Stmt) → Option Bool) (p0 : T_api_Stmt) : Option Bool :=
  ((s_syntax_built p0).bind fun v1 => some (!v1))
set_option maxRecDepth 100000 in
set_option maxHeartbeats 4000000 in
theorem cb_syntax_blocks_1 (s_syntax_built : T_api_Stmt → Option Bool) (s_syntax_blocks_1 : T_api_Stmt → Option Bool) (s_syntax_blocks : (List T_api_Stmt) → Option Bool) (p0 : T_api_Stmt) (H_s_syntax_built : ∀ (p0 : T_api_Stmt) {r : Bool}, s_syntax_built p0 = some r → ∀ {st : List Content} {K : PV → List Content → Prop} (h : K (.d (.bool r)) st), ACalls PR n_syntax_built [(.agg [(.d (.int .i64 p0.Op)), (.d (.str p0.Name)), (.d (.str p0.Src)), (.d (.int .i64 p0.N)), (.d (.sl (List.map rS p0.Cols))), (.d (.sl (List.map T_api_Expr.row p0.Exprs))), (.d (.sl (List.map T_api_Stmt.row p0.Body))), (.d (.sl (List.map T_api_Stmt.row p0.Else)))])] st K) (H_s_syntax_blocks_1 : ∀ (p0 : T_api_Stmt) {r : Bool}, s_syntax_blocks_1 p0 = some r → ∀ {st : List Content} {K : PV → List Content → Prop} (h : K (.d (.bool r)) st), ACalls PR n_syntax_blocks_1 [(.agg [(.d (.int .i64 p0.Op)), (.d (.str p0.Name)), (.d (.str p0.Src)), (.d (.int .i64 p0.N)), (.d (.sl (List.map rS p0.Cols))), (.d (.sl (List.map T_api_Expr.row p0.Exprs))), (.d (.sl (List.map T_api_Stmt.row p0.Body))), (.d (.sl (List.map T_api_Stmt.row p0.Else)))])] st K) (H_s_syntax_blocks : ∀ (p0 : (List T_api_Stmt)) {r : Bool}, s_syntax_blocks p0 = some r → ∀ {st : List Content} {K : PV → List Content → Prop} (h : K (.d (.bool r)) st), ACalls PR n_syntax_blocks [(.d (.sl (List.map T_api_Stmt.row p0)))] st K) {r : Bool} (hr : d_syntax_blocks_1_b s_syntax_built s_syntax_blocks_1 s_syntax_blocks p0 = some r) {K : PV → List Content → Prop} (h : K (.d (.bool r)) st) : ACalls PR n_syntax_blocks_1 [(.agg [(.d (.int .i64 p0.Op)), (.d (.str p0.Name)), (.d (.str p0.Src)), (.d (.int .i64 p0.N)), (.d (.sl (List.map rS p0.Cols))), (.d (.sl (List.map T_api_Expr.row p0.Exprs))), (.d (.sl (List.map T_api_Stmt.row p0.Body))), (.d (.sl (List.map T_api_Stmt.row p0.Else)))])] st K := by
  refine ACalls.of F_syntax_blocks_1 (Nat.le_of_ble_eq_true rfl) fun hwf => ?_
  rw [args0_1]
  refine entry_nil ?_
  unfold x_syntax_blocks_1
  rw [d_syntax_blocks_1_b] at hr
  refine x_seq ?_
  refine x_region ?_
  unfold x_syntax_blocks_1_r0
  refine o_box (k := 0) rfl rfl (e_t e_hit) pc_agg (by exact rfl) ?_
  refine o_move e_c ?_
  refine run_nil ?_
  refine k_then ?_
  refine x_seq ?_
  refine x_region ?_
  unfold x_syntax_blocks_1_r1
  refine o_loadA (e_t (e_miss rfl e_hit)) ((g_ext rfl 0).trans rfl) (Nat.le_of_ble_eq_true rfl) (by exact rfl) ?_
  obtain ⟨v1, hc_v1, hr⟩ := bind_some hr
  refine o_call (a_cons (e_t e_hit) (fz_agg (f_cons f_d (f_cons f_d (f_cons f_d (f_cons f_d (f_cons f_d (f_cons f_d (f_cons f_d (f_cons f_d f_nil))))))))) a_nil) ?_
  refine H_s_syntax_built p0 hc_v1 ?_
  refine o_not (e_t e_hit) ?_
  refine o_move (e_t e_hit) ?_
  refine run_nil ?_
  refine k_then ?_
  refine x_ret ?_
  cases hr
  exact retK (r_tmp e_hit r_nil) (p_one fz_d v_d) (cutS_wf hwf) h
def d_syntax_blocks_b (s_syntax_built : T_api_Stmt → Option Bool) (s_syntax_blocks_1 : T_api_Stmt → Option Bool) (s_syntax_blocks : (List T_api_Stmt) → Option Bool) (n : Nat) (p0 : (List T_api_Stmt)) : Option Bool :=
  ((d_slices_ContainsFunc_api_Stmt_api_Stmt n p0 (fun (a0 : T_api_Stmt) => s_syntax_blocks_1 a0)).bind fun v1 => some (!v1))
set_option maxRecDepth 100000 in
set_option maxHeartbeats 4000000 in
theorem cb_syntax_blocks (s_syntax_built : T_api_Stmt → Option Bool) (s_syntax_blocks_1 : T_api_Stmt → Option Bool) (s_syntax_blocks : (List T_api_Stmt) → Option Bool) (n : Nat) (p0 : (List T_api_Stmt)) (H_s_syntax_built : ∀ (p0 : T_api_Stmt) {r : Bool}, s_syntax_built p0 = some r → ∀ {st : List Content} {K : PV → List Content → Prop} (h : K (.d (.bool r)) st), ACalls PR n_syntax_built [(.agg [(.d (.int .i64 p0.Op)), (.d (.str p0.Name)), (.d (.str p0.Src)), (.d (.int .i64 p0.N)), (.d (.sl (List.map rS p0.Cols))), (.d (.sl (List.map T_api_Expr.row p0.Exprs))), (.d (.sl (List.map T_api_Stmt.row p0.Body))), (.d (.sl (List.map T_api_Stmt.row p0.Else)))])] st K) (H_s_syntax_blocks_1 : ∀ (p0 : T_api_Stmt) {r : Bool}, s_syntax_blocks_1 p0 = some r → ∀ {st : List Content} {K : PV → List Content → Prop} (h : K (.d (.bool r)) st), ACalls PR n_syntax_blocks_1 [(.agg [(.d (.int .i64 p0.Op)), (.d (.str p0.Name)), (.d (.str p0.Src)), (.d (.int .i64 p0.N)), (.d (.sl (List.map rS p0.Cols))), (.d (.sl (List.map T_api_Expr.row p0.Exprs))), (.d (.sl (List.map T_api_Stmt.row p0.Body))), (.d (.sl (List.map T_api_Stmt.row p0.Else)))])] st K) (H_s_syntax_blocks : ∀ (p0 : (List T_api_Stmt)) {r : Bool}, s_syntax_blocks p0 = some r → ∀ {st : List Content} {K : PV → List Content → Prop} (h : K (.d (.bool r)) st), ACalls PR n_syntax_blocks [(.d (.sl (List.map T_api_Stmt.row p0)))] st K) {r : Bool} (hr : d_syntax_blocks_b s_syntax_built s_syntax_blocks_1 s_syntax_blocks n p0 = some r) {K : PV → List Content → Prop} (h : K (.d (.bool r)) st) : ACalls PR n_syntax_blocks [(.d (.sl (List.map T_api_Stmt.row p0)))] st K := by
  refine ACalls.of F_syntax_blocks (Nat.le_of_ble_eq_true rfl) fun hwf => ?_
  rw [args0_1]
  refine entry_nil ?_
  unfold x_syntax_blocks
  rw [d_syntax_blocks_b] at hr
  refine x_seq ?_
  refine x_region ?_
  unfold x_syntax_blocks_r0
  refine o_move e_c ?_
  refine run_nil ?_
  refine k_then ?_
  refine x_seq ?_
  refine x_region ?_
  unfold x_syntax_blocks_r1
  refine o_move (e_t (e_miss rfl e_hit)) ?_
  obtain ⟨v1, hc_v1, hr⟩ := bind_some hr
  refine o_call (a_cons (e_t e_hit) fz_d (a_cons e_c fz_fn a_nil)) ?_
  refine c_slices_ContainsFunc_api_Stmt_api_Stmt n p0 (fun (a0 : T_api_Stmt) => s_syntax_blocks_1 a0) (fun a0 {_} hr {_ _} hk => H_s_syntax_blocks_1 a0 hr hk) (fun _ => rfl) hc_v1 ?_
  refine o_not (e_t e_hit) ?_
  refine o_move (e_t e_hit) ?_
  refine run_nil ?_
  refine k_then ?_
  refine x_ret ?_
  cases hr
  exact retK (r_tmp e_hit r_nil) (p_one fz_d v_d) (cutS_wf hwf) h
mutual
def d_syntax_built : Nat → T_api_Stmt → Option Bool
  | 0, _ => none
  | n + 1, p0 => d_syntax_built_b (d_syntax_built n) (d_syntax_blocks_1 n) (d_syntax_blocks n) n p0
def d_syntax_blocks_1 : Nat → T_api_Stmt → Option Bool
  | 0, _ => none
  | n + 1, p0 => d_syntax_blocks_1_b (d_syntax_built n) (d_syntax_blocks_1 n) (d_syntax_blocks n) p0
def d_syntax_blocks : Nat → (List T_api_Stmt) → Option Bool
  | 0, _ => none
  | n + 1, p0 => d_syntax_blocks_b (d_syntax_built n) (d_syntax_blocks_1 n) (d_syntax_blocks n) n p0
end
theorem cs_syntax_built : ∀ n : Nat, (∀ (p0 : T_api_Stmt) {r : Bool}, d_syntax_built n p0 = some r → ∀ {st : List Content} {K : PV → List Content → Prop} (h : K (.d (.bool r)) st), ACalls PR n_syntax_built [(.agg [(.d (.int .i64 p0.Op)), (.d (.str p0.Name)), (.d (.str p0.Src)), (.d (.int .i64 p0.N)), (.d (.sl (List.map rS p0.Cols))), (.d (.sl (List.map T_api_Expr.row p0.Exprs))), (.d (.sl (List.map T_api_Stmt.row p0.Body))), (.d (.sl (List.map T_api_Stmt.row p0.Else)))])] st K) ∧ (∀ (p0 : T_api_Stmt) {r : Bool}, d_syntax_blocks_1 n p0 = some r → ∀ {st : List Content} {K : PV → List Content → Prop} (h : K (.d (.bool r)) st), ACalls PR n_syntax_blocks_1 [(.agg [(.d (.int .i64 p0.Op)), (.d (.str p0.Name)), (.d (.str p0.Src)), (.d (.int .i64 p0.N)), (.d (.sl (List.map rS p0.Cols))), (.d (.sl (List.map T_api_Expr.row p0.Exprs))), (.d (.sl (List.map T_api_Stmt.row p0.Body))), (.d (.sl (List.map T_api_Stmt.row p0.Else)))])] st K) ∧ (∀ (p0 : (List T_api_Stmt)) {r : Bool}, d_syntax_blocks n p0 = some r → ∀ {st : List Content} {K : PV → List Content → Prop} (h : K (.d (.bool r)) st), ACalls PR n_syntax_blocks [(.d (.sl (List.map T_api_Stmt.row p0)))] st K)
  | 0 => ⟨fun _ _ hr => (by rw [d_syntax_built] at hr; cases hr), fun _ _ hr => (by rw [d_syntax_blocks_1] at hr; cases hr), fun _ _ hr => (by rw [d_syntax_blocks] at hr; cases hr)⟩
  | n + 1 => ⟨fun p0 _ hr _ _ h => cb_syntax_built (d_syntax_built n) (d_syntax_blocks_1 n) (d_syntax_blocks n) n p0 (cs_syntax_built n).1 (cs_syntax_built n).2.1 (cs_syntax_built n).2.2 (by rw [d_syntax_built] at hr; exact hr) h, fun p0 _ hr _ _ h => cb_syntax_blocks_1 (d_syntax_built n) (d_syntax_blocks_1 n) (d_syntax_blocks n) p0 (cs_syntax_built n).1 (cs_syntax_built n).2.1 (cs_syntax_built n).2.2 (by rw [d_syntax_blocks_1] at hr; exact hr) h, fun p0 _ hr _ _ h => cb_syntax_blocks (d_syntax_built n) (d_syntax_blocks_1 n) (d_syntax_blocks n) n p0 (cs_syntax_built n).1 (cs_syntax_built n).2.1 (cs_syntax_built n).2.2 (by rw [d_syntax_blocks] at hr; exact hr) h⟩
theorem c_syntax_built (n : Nat) (p0 : T_api_Stmt) {r : Bool} (hr : d_syntax_built n p0 = some r) {K : PV → List Content → Prop} (h : K (.d (.bool r)) st) : ACalls PR n_syntax_built [(.agg [(.d (.int .i64 p0.Op)), (.d (.str p0.Name)), (.d (.str p0.Src)), (.d (.int .i64 p0.N)), (.d (.sl (List.map rS p0.Cols))), (.d (.sl (List.map T_api_Expr.row p0.Exprs))), (.d (.sl (List.map T_api_Stmt.row p0.Body))), (.d (.sl (List.map T_api_Stmt.row p0.Else)))])] st K := (cs_syntax_built n).1 p0 hr h
theorem c_syntax_blocks_1 (n : Nat) (p0 : T_api_Stmt) {r : Bool} (hr : d_syntax_blocks_1 n p0 = some r) {K : PV → List Content → Prop} (h : K (.d (.bool r)) st) : ACalls PR n_syntax_blocks_1 [(.agg [(.d (.int .i64 p0.Op)), (.d (.str p0.Name)), (.d (.str p0.Src)), (.d (.int .i64 p0.N)), (.d (.sl (List.map rS p0.Cols))), (.d (.sl (List.map T_api_Expr.row p0.Exprs))), (.d (.sl (List.map T_api_Stmt.row p0.Body))), (.d (.sl (List.map T_api_Stmt.row p0.Else)))])] st K := (cs_syntax_built n).2.1 p0 hr h
theorem c_syntax_blocks (n : Nat) (p0 : (List T_api_Stmt)) {r : Bool} (hr : d_syntax_blocks n p0 = some r) {K : PV → List Content → Prop} (h : K (.d (.bool r)) st) : ACalls PR n_syntax_blocks [(.d (.sl (List.map T_api_Stmt.row p0)))] st K := (cs_syntax_built n).2.2 p0 hr h

def d_syntax_Right_j0 (p0 : T_api_Proc) (n : Nat) (v3 : Bool) : Option Bool :=
  (bif v3 then ((d_syntax_blocks n p0.Body).bind fun v4 => some v4) else some false)
def d_syntax_Right (n : Nat) (p0 : T_api_Proc) : Option Bool :=
  ((d_syntax_all_api_Stmt n p0.Body (0 : Int) (fun (a0 : T_api_Stmt) (a1 : Int) => d_syntax_sizeStmt n a0 a1)).bind fun v1 => ((d_syntax_heads n p0).bind fun v2 => (bif v2 then (d_syntax_Right_j0 p0 n (d_syntax_size_small v1)) else (d_syntax_Right_j0 p0 n false))))
set_option maxRecDepth 100000 in
set_option maxHeartbeats 4000000 in
theorem c_syntax_Right (n : Nat) (p0 : T_api_Proc) {r : Bool} (hr : d_syntax_Right n p0 = some r) {K : PV → List Content → Prop} (h : K (.d (.bool r)) st) : ACalls PR n_syntax_Right [(.agg [(.d (.str p0.Name)), (.d (.str p0.From)), (.d (.str p0.At)), (.d (.int .i64 p0.Fuel)), (.d (.sl (List.map T_api_Column.row p0.Params))), (.d (.sl (List.map T_api_Stmt.row p0.Body)))])] st K := by
  refine ACalls.of F_syntax_Right (Nat.le_of_ble_eq_true rfl) fun hwf => ?_
  rw [args0_1]
  refine entry_nil ?_
  unfold x_syntax_Right
  rw [d_syntax_Right] at hr
  refine x_seq ?_
  refine x_region ?_
  unfold x_syntax_Right_r0
  refine o_box (k := 0) rfl rfl (e_t e_hit) pc_agg (by exact rfl) ?_
  refine o_move e_c ?_
  refine run_nil ?_
  refine k_then ?_
  refine x_seq ?_
  refine x_region ?_
  unfold x_syntax_Right_r1
  refine o_fa (e_t (e_miss rfl e_hit)) (by exact rfl) ?_
  refine o_load (e_t e_hit) ((g_ext rfl 0).trans rfl) (by exact rfl) ?_
  obtain ⟨v1, hc_v1, hr⟩ := bind_some hr
  refine o_call (a_cons (e_t e_hit) fz_d (a_cons e_c fz_d (a_cons e_c fz_fn a_nil))) ?_
  refine c_syntax_all_api_Stmt n p0.Body (0 : Int) (fun (a0 : T_api_Stmt) (a1 : Int) => d_syntax_sizeStmt n a0 a1) (fun a0 a1 {_} hr {_ _} hk => c_syntax_sizeStmt n a0 a1 hr hk) (fun _ => rfl) hc_v1 ?_
  refine o_alloc (k := 1) rfl rfl ?_
  refine o_store (e_t e_hit) ((g_ext rfl 1).trans rfl) (e_t (e_miss rfl e_hit)) pc_agg rfl (Nat.le_of_ble_eq_true rfl) (by exact rfl) (cells' := [(.d (.int .i64 v1.nodes)), (.d (.int .i64 v1.depth))]) (by exact rfl) (s_ext rfl _ _) ?_
  refine run_nil ?_
  refine k_then ?_
  refine x_seq ?_
  refine x_region ?_
  unfold x_syntax_Right_r2
  refine run_join (fun f st' => ∃ (v3 : Bool), d_syntax_Right_j0 p0 n v3 = some r ∧ f 1 = (.ptr (st.length + 0) 0) ∧ f 11 = (.d (.bool v3)) ∧ st' = st ++ [(.box [(.d (.str p0.Name)), (.d (.str p0.From)), (.d (.str p0.At)), (.d (.int .i64 p0.Fuel)), (.d (.sl (List.map T_api_Column.row p0.Params))), (.d (.sl (List.map T_api_Stmt.row p0.Body)))]), (.box [(.d (.int .i64 v1.nodes)), (.d (.int .i64 v1.depth))])]) ?_ ?_
  · unfold x_syntax_Right_r2s0
    refine o_loadA (e_t (e_m4 rfl (e_miss rfl e_hit))) ((g_ext rfl 0).trans rfl) (Nat.le_of_ble_eq_true rfl) (by exact rfl) ?_
    obtain ⟨v2, hc_v2, hr⟩ := bind_some hr
    refine o_call (a_cons (e_t e_hit) (fz_agg (f_cons f_d (f_cons f_d (f_cons f_d (f_cons f_d (f_cons f_d (f_cons f_d f_nil))))))) a_nil) ?_
    refine c_syntax_heads n p0 hc_v2 ?_
    refine o_move (e_t e_hit) ?_
    refine g_splitL e_hit hr (fun hr => ?_) (fun hr => ?_)
    rotate_left
    · refine g_skip e_hit ?_
      refine o_pick_f (e_t (e_miss rfl e_hit)) e_c ?_
      refine run_nil ?_
      exact ⟨false, hr, (e_m4 rfl (e_m4 rfl (e_m2 rfl (e_miss rfl e_hit)))), e_hit, rfl⟩
    refine g_run e_hit ?_
    refine o_call (a_cons (e_t (e_m4 rfl e_hit)) fz_ptr a_nil) ?_
    refine c_syntax_size_small v1 rfl ((g_ext rfl 1).trans rfl) ?_
    refine o_pick_t (e_t (e_miss rfl e_hit)) (e_t e_hit) ?_
    refine run_nil ?_
    exact ⟨(d_syntax_size_small v1), hr, (e_m4 rfl (e_m4 rfl (e_m2 rfl (e_miss rfl e_hit)))), e_hit, rfl⟩
  rintro f st' ⟨v3, hr, h1, h11, rfl⟩
  rw [d_syntax_Right_j0] at hr
  refine run_app ?_
  unfold x_syntax_Right_r2s1
  refine o_move (e_t h11) ?_
  refine g_splitL e_hit hr (fun hr => ?_) (fun hr => ?_)
  rotate_left
  · refine g_skip e_hit ?_
    refine g_skip (e_miss rfl e_hit) ?_
    refine g_skip (e_m2 rfl e_hit) ?_
    refine o_pick_f (e_t (e_m2 rfl (e_miss rfl e_hit))) e_c ?_
    refine run_nil ?_
    unfold x_syntax_Right_r2s2
    refine o_move (e_t e_hit) ?_
    refine run_nil ?_
    refine k_then ?_
    refine x_ret ?_
    cases hr
    exact retK (r_tmp e_hit r_nil) (p_one fz_d v_d) (cutS_wf hwf) h
  refine g_run e_hit ?_
  refine o_fa (e_t (e_m2 rfl h1)) (by exact rfl) ?_
  refine g_run (e_miss rfl e_hit) ?_
  refine o_load (e_t e_hit) ((g_ext rfl 0).trans rfl) (by exact rfl) ?_
  refine g_run (e_m2 rfl e_hit) ?_
  obtain ⟨v4, hc_v4, hr⟩ := bind_some hr
  refine o_call (a_cons (e_t e_hit) fz_d a_nil) ?_
  refine c_syntax_blocks n p0.Body hc_v4 ?_
  refine o_pick_t (e_t (e_m2 rfl (e_miss rfl e_hit))) (e_t e_hit) ?_
  refine run_nil ?_
  unfold x_syntax_Right_r2s2
  refine o_move (e_t e_hit) ?_
  refine run_nil ?_
  refine k_then ?_
  refine x_ret ?_
  cases hr
  exact retK (r_tmp e_hit r_nil) (p_one fz_d v_d) (cutS_wf hwf) h
end Go.Ax
