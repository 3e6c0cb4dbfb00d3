import Derived.Test.YtojkpenjeglipaaYT
import Derived.Test.YtojkpenjeglipaaVX
import Derived.Test.YtojkpenjeglipaaPrim
import Derived.Test.YtojkpenjeglipaaYD0
set_option linter.unusedVariables false
set_option linter.unusedSimpArgs false
namespace Go.Ax
attribute [local irreducible] xexec xops xpre xrun xacc thenX inBlockX RetK XLoop upd ev u0 frzA frz asRows binK mmD bnd okAll fillP fillOk rowsOf toDs frz1 pack cutV tokC tokArgs
variable {st : List Content}

def d_syntax_sizeStmt_b (s_syntax_sizeStmt : T_api_Stmt → Int → Option T_syntax_size) (n : Nat) (p0 : T_api_Stmt) (p1 : Int) : Option T_syntax_size :=
  ((d_syntax_all_api_Expr n p0.Exprs (IntKind.wrap .i64 (p1 + (1 : Int))) (fun (a0 : T_api_Expr) (a1 : Int) => d_syntax_sizeExpr n a0 a1)).bind fun v2 => ((d_syntax_all_api_Stmt n p0.Body (IntKind.wrap .i64 (p1 + (1 : Int))) (fun (a0 : T_api_Stmt) (a1 : Int) => s_syntax_sizeStmt a0 a1)).bind fun v3 => ((d_syntax_all_api_Stmt n p0.Else (IntKind.wrap .i64 (p1 + (1 : Int))) (fun (a0 : T_api_Stmt) (a1 : Int) => s_syntax_sizeStmt a0 a1)).bind fun v4 => some (d_syntax_over (d_syntax_size_add (d_syntax_size_add v2 v3) v4)))))
set_option maxRecDepth 100000 in
set_option maxHeartbeats 4000000 in
theorem cb_syntax_sizeStmt (s_syntax_sizeStmt : T_api_Stmt → Int → Option T_syntax_size) (n : Nat) (p0 : T_api_Stmt) (p1 : Int) (H_s_syntax_sizeStmt : ∀ (p0 : T_api_Stmt) (p1 : Int) {r : T_syntax_size}, s_syntax_sizeStmt p0 p1 = some r → ∀ {st : List Content} {K : PV → List Content → Prop} (h : K (.agg [(.d (.int .i64 r.nodes)), (.d (.int .i64 r.depth))]) st), ACalls PR n_syntax_sizeStmt [(.agg [(.d (.int .i64 p0.Op)), (.d (.str p0.Name)), (.d (.str p0.Src)), (.d (.int .i64 p0.N)), (.d (.sl (List.map rS p0.Cols))), (.d (.sl (List.map T_api_Expr.row p0.Exprs))), (.d (.sl (List.map T_api_Stmt.row p0.Body))), (.d (.sl (List.map T_api_Stmt.row p0.Else)))]), (.d (.int .i64 p1))] st K) {r : T_syntax_size} (hr : d_syntax_sizeStmt_b s_syntax_sizeStmt n p0 p1 = some r) {K : PV → List Content → Prop} (h : K (.agg [(.d (.int .i64 r.nodes)), (.d (.int .i64 r.depth))]) st) : ACalls PR n_syntax_sizeStmt [(.agg [(.d (.int .i64 p0.Op)), (.d (.str p0.Name)), (.d (.str p0.Src)), (.d (.int .i64 p0.N)), (.d (.sl (List.map rS p0.Cols))), (.d (.sl (List.map T_api_Expr.row p0.Exprs))), (.d (.sl (List.map T_api_Stmt.row p0.Body))), (.d (.sl (List.map T_api_Stmt.row p0.Else)))]), (.d (.int .i64 p1))] st K := by
  refine ACalls.of F_syntax_sizeStmt (Nat.le_of_ble_eq_true rfl) fun hwf => ?_
  rw [args0_2]
  refine entry_nil ?_
  unfold x_syntax_sizeStmt
  rw [d_syntax_sizeStmt_b] at hr
  refine x_seq ?_
  refine x_region ?_
  unfold x_syntax_sizeStmt_r0
  refine o_box (k := 0) rfl rfl (e_t e_hit) pc_agg (by exact rfl) ?_
  refine o_alloc (k := 1) rfl rfl ?_
  refine run_nil ?_
  refine k_then ?_
  refine x_seq ?_
  refine x_region ?_
  unfold x_syntax_sizeStmt_r1
  refine o_fa (e_t (e_miss rfl e_hit)) (by exact rfl) ?_
  refine o_load (e_t e_hit) ((g_ext rfl 0).trans rfl) (by exact rfl) ?_
  refine o_move (e_t (e_m4 rfl (e_miss rfl e_hit))) ?_
  refine o_bin (e_t e_hit) e_c (b_add ?_)
  obtain ⟨v2, hc_v2, hr⟩ := bind_some hr
  refine o_call (a_cons (e_t (e_m2 rfl e_hit)) fz_d (a_cons (e_t e_hit) fz_d (a_cons e_c fz_fn a_nil))) ?_
  refine c_syntax_all_api_Expr n p0.Exprs (IntKind.wrap .i64 (p1 + (1 : Int))) (fun (a0 : T_api_Expr) (a1 : Int) => d_syntax_sizeExpr n a0 a1) (fun a0 a1 {_} hr {_ _} hk => c_syntax_sizeExpr n a0 a1 hr hk) (fun _ => rfl) hc_v2 ?_
  refine o_alloc (k := 2) rfl rfl ?_
  refine o_store (e_t e_hit) ((g_ext rfl 2).trans rfl) (e_t (e_miss rfl e_hit)) pc_agg rfl (Nat.le_of_ble_eq_true rfl) (by exact rfl) (cells' := [(.d (.int .i64 v2.nodes)), (.d (.int .i64 v2.depth))]) (by exact rfl) (s_ext rfl _ _) ?_
  refine run_nil ?_
  refine k_then ?_
  refine x_seq ?_
  refine x_region ?_
  unfold x_syntax_sizeStmt_r2
  refine o_fa (e_t (e_m4 rfl (e_m2 rfl (e_miss rfl e_hit)))) (by exact rfl) ?_
  refine o_load (e_t e_hit) ((g_ext rfl 0).trans rfl) (by exact rfl) ?_
  refine o_move (e_t (e_m4 rfl (e_m4 rfl (e_m2 rfl (e_miss rfl e_hit))))) ?_
  refine o_bin (e_t e_hit) e_c (b_add ?_)
  obtain ⟨v3, hc_v3, hr⟩ := bind_some hr
  refine o_call (a_cons (e_t (e_m2 rfl e_hit)) fz_d (a_cons (e_t e_hit) fz_d (a_cons e_c fz_fn a_nil))) ?_
  refine c_syntax_all_api_Stmt n p0.Body (IntKind.wrap .i64 (p1 + (1 : Int))) (fun (a0 : T_api_Stmt) (a1 : Int) => s_syntax_sizeStmt a0 a1) (fun a0 a1 {_} hr {_ _} hk => H_s_syntax_sizeStmt a0 a1 hr hk) (fun _ => rfl) hc_v3 ?_
  refine o_call (a_cons (e_t (e_m4 rfl (e_miss rfl e_hit))) fz_ptr (a_cons (e_t e_hit) (fz_agg (f_cons f_d (f_cons f_d f_nil))) a_nil)) ?_
  refine c_syntax_size_add v2 v3 rfl ((g_ext rfl 2).trans rfl) (s_ext rfl _ _) ?_
  refine run_nil ?_
  refine k_then ?_
  refine x_seq ?_
  refine x_region ?_
  unfold x_syntax_sizeStmt_r3
  refine o_fa (e_t (e_m4 rfl (e_m4 rfl (e_m4 rfl (e_miss rfl e_hit))))) (by exact rfl) ?_
  refine o_load (e_t e_hit) ((g_ext rfl 0).trans rfl) (by exact rfl) ?_
  refine o_move (e_t (e_m4 rfl (e_m4 rfl (e_m4 rfl (e_m4 rfl (e_miss rfl e_hit)))))) ?_
  refine o_bin (e_t e_hit) e_c (b_add ?_)
  obtain ⟨v4, hc_v4, hr⟩ := bind_some hr
  refine o_call (a_cons (e_t (e_m2 rfl e_hit)) fz_d (a_cons (e_t e_hit) fz_d (a_cons e_c fz_fn a_nil))) ?_
  refine c_syntax_all_api_Stmt n p0.Else (IntKind.wrap .i64 (p1 + (1 : Int))) (fun (a0 : T_api_Stmt) (a1 : Int) => s_syntax_sizeStmt a0 a1) (fun a0 a1 {_} hr {_ _} hk => H_s_syntax_sizeStmt a0 a1 hr hk) (fun _ => rfl) hc_v4 ?_
  refine o_call (a_cons (e_t (e_m4 rfl (e_m4 rfl (e_m2 rfl (e_miss rfl e_hit))))) fz_ptr (a_cons (e_t e_hit) (fz_agg (f_cons f_d (f_cons f_d f_nil))) a_nil)) ?_
  refine c_syntax_size_add (d_syntax_size_add v2 v3) v4 rfl ((g_ext rfl 2).trans rfl) (s_ext rfl _ _) ?_
  refine run_nil ?_
  refine k_then ?_
  refine x_seq ?_
  refine x_region ?_
  unfold x_syntax_sizeStmt_r4
  refine o_loadA (e_t (e_m4 rfl (e_m4 rfl (e_m4 rfl e_hit)))) ((g_ext rfl 2).trans rfl) (Nat.le_of_ble_eq_true rfl) (by exact rfl) ?_
  refine o_call (a_cons (e_t e_hit) (fz_agg (f_cons f_d (f_cons f_d f_nil))) a_nil) ?_
  refine c_syntax_over (d_syntax_size_add (d_syntax_size_add v2 v3) v4) rfl ?_
  refine o_store (e_t (e_m4 rfl (e_m4 rfl (e_m4 rfl (e_m4 rfl (e_m4 rfl e_hit)))))) ((g_ext rfl 1).trans rfl) (e_t e_hit) pc_agg rfl (Nat.le_of_ble_eq_true rfl) (by exact rfl) (cells' := [(.d (.int .i64 ((d_syntax_over (d_syntax_size_add (d_syntax_size_add v2 v3) v4)).nodes))), (.d (.int .i64 ((d_syntax_over (d_syntax_size_add (d_syntax_size_add v2 v3) v4)).depth)))]) (by exact rfl) (s_ext rfl _ _) ?_
  refine run_nil ?_
  refine k_then ?_
  refine x_ret ?_
  cases hr
  exact retK (r_cellA (e_m4 rfl (e_m4 rfl (e_m4 rfl (e_m4 rfl (e_m4 rfl e_hit))))) ((g_ext rfl 1).trans rfl) (Nat.le_of_ble_eq_true rfl) (by exact rfl) r_nil) (p_one (fz_agg (f_cons f_d (f_cons f_d f_nil))) (v_agg rfl)) (cutS_wf hwf) h
def d_syntax_sizeStmt : Nat → T_api_Stmt → Int → Option T_syntax_size
  | 0, _, _ => none
  | n + 1, p0, p1 => d_syntax_sizeStmt_b (d_syntax_sizeStmt n) n p0 p1
theorem cs_syntax_sizeStmt : ∀ n : Nat, (∀ (p0 : T_api_Stmt) (p1 : Int) {r : T_syntax_size}, d_syntax_sizeStmt n p0 p1 = some r → ∀ {st : List Content} {K : PV → List Content → Prop} (h : K (.agg [(.d (.int .i64 r.nodes)), (.d (.int .i64 r.depth))]) st), ACalls PR n_syntax_sizeStmt [(.agg [(.d (.int .i64 p0.Op)), (.d (.str p0.Name)), (.d (.str p0.Src)), (.d (.int .i64 p0.N)), (.d (.sl (List.map rS p0.Cols))), (.d (.sl (List.map T_api_Expr.row p0.Exprs))), (.d (.sl (List.map T_api_Stmt.row p0.Body))), (.d (.sl (List.map T_api_Stmt.row p0.Else)))]), (.d (.int .i64 p1))] st K)
  | 0 => fun _ _ _ hr => (by rw [d_syntax_sizeStmt] at hr; cases hr)
  | n + 1 => fun p0 p1 _ hr _ _ h => cb_syntax_sizeStmt (d_syntax_sizeStmt n) n p0 p1 (cs_syntax_sizeStmt n) (by rw [d_syntax_sizeStmt] at hr; exact hr) h
theorem c_syntax_sizeStmt (n : Nat) (p0 : T_api_Stmt) (p1 : Int) {r : T_syntax_size} (hr : d_syntax_sizeStmt n p0 p1 = some r) {K : PV → List Content → Prop} (h : K (.agg [(.d (.int .i64 r.nodes)), (.d (.int .i64 r.depth))]) st) : ACalls PR n_syntax_sizeStmt [(.agg [(.d (.int .i64 p0.Op)), (.d (.str p0.Name)), (.d (.str p0.Src)), (.d (.int .i64 p0.N)), (.d (.sl (List.map rS p0.Cols))), (.d (.sl (List.map T_api_Expr.row p0.Exprs))), (.d (.sl (List.map T_api_Stmt.row p0.Body))), (.d (.sl (List.map T_api_Stmt.row p0.Else)))]), (.d (.int .i64 p1))] st K := (cs_syntax_sizeStmt n) p0 p1 hr h

def d_syntax_size_told (p0 : T_syntax_size) : (Int × Int) :=
  (bif (d_syntax_size_full p0) then ((1000 : Int), (1000 : Int)) else (p0.nodes, p0.depth))
set_option maxRecDepth 100000 in
set_option maxHeartbeats 4000000 in
theorem c_syntax_size_told (p0 : T_syntax_size) {r : (Int × Int)} (hr : d_syntax_size_told p0 = r) {x0 : Nat} (hx_x0 : st[x0]? = some (.box [(.d (.int .i64 p0.nodes)), (.d (.int .i64 p0.depth))])) {K : PV → List Content → Prop} (h : K (.tup [(.d (.int .i64 r.1)), (.d (.int .i64 r.2))]) st) : ACalls PR n_syntax_size_told [(.ptr x0 0)] st K := by
  refine ACalls.of F_syntax_size_told (Nat.le_of_ble_eq_true rfl) fun hwf => ?_
  rw [args0_1]
  refine entry_nil ?_
  unfold x_syntax_size_told
  rw [d_syntax_size_told] at hr
  refine x_seq ?_
  refine x_region ?_
  unfold x_syntax_size_told_r0
  refine o_move e_c ?_
  refine o_move e_c ?_
  refine run_nil ?_
  refine k_then ?_
  refine x_seq ?_
  refine x_seq ?_
  refine x_region ?_
  unfold x_syntax_size_told_r1
  refine o_move (e_t (e_m2 rfl e_hit)) ?_
  refine o_call (a_cons (e_t e_hit) fz_ptr a_nil) ?_
  refine c_syntax_size_full p0 rfl (g_old hx_x0) ?_
  refine run_nil ?_
  refine k_then ?_
  refine x_condL (e_t e_hit) hr (fun hr => ?_) (fun hr => ?_)
  · refine x_seq ?_
    refine x_region ?_
    unfold x_syntax_size_told_r2
    refine o_move e_c ?_
    refine o_move e_c ?_
    refine run_nil ?_
    refine k_then ?_
    refine x_ret ?_
    refine k_thenR ?_
    subst hr
    exact retK (r_tmp (e_miss rfl e_hit) (r_tmp e_hit r_nil)) (p_list (f1_cons f1_d (f1_cons f1_d f1_nil)) rfl) (cutS_wf hwf) h
  refine x_skip ?_
  refine k_then ?_
  refine x_seq ?_
  refine x_regionS (k := 0) rfl rfl ?_
  unfold x_syntax_size_told_r3
  refine o_move (e_t (e_m4 rfl e_hit)) ?_
  refine o_nilc (e_t e_hit) ?_
  refine o_fa (e_t e_hit) (by exact rfl) ?_
  refine o_load (e_t e_hit) (g_old hx_x0) (by exact rfl) ?_
  refine o_move (e_t (e_m4 rfl (e_m4 rfl e_hit))) ?_
  refine o_nilc (e_t e_hit) ?_
  refine o_fa (e_t e_hit) (by exact rfl) ?_
  refine o_load (e_t e_hit) (g_old hx_x0) (by exact rfl) ?_
  refine o_move (e_t (e_m4 rfl e_hit)) ?_
  refine o_move (e_t (e_miss rfl e_hit)) ?_
  refine run_nil ?_
  refine k_then ?_
  refine x_ret ?_
  subst hr
  exact retK (r_tmp (e_miss rfl e_hit) (r_tmp e_hit r_nil)) (p_list (f1_cons f1_d (f1_cons f1_d f1_nil)) rfl) (cutS_wf hwf) h

def d_syntax_Size (n : Nat) (p0 : T_api_Proc) : Option (Int × Int) :=
  ((d_syntax_all_api_Stmt n p0.Body (0 : Int) (fun (a0 : T_api_Stmt) (a1 : Int) => d_syntax_sizeStmt n a0 a1)).bind fun v1 => some ((d_syntax_size_told v1).1, (d_syntax_size_told v1).2))
set_option maxRecDepth 100000 in
set_option maxHeartbeats 4000000 in
theorem c_syntax_Size (n : Nat) (p0 : T_api_Proc) {r : (Int × Int)} (hr : d_syntax_Size n p0 = some r) {K : PV → List Content → Prop} (h : K (.tup [(.d (.int .i64 r.1)), (.d (.int .i64 r.2))]) st) : ACalls PR n_syntax_Size [(.agg [(.d (.str p0.Name)), (.d (.str p0.From)), (.d (.str p0.At)), (.d (.int .i64 p0.Fuel)), (.d (.sl (List.map T_api_Column.row p0.Params))), (.d (.sl (List.map T_api_Stmt.row p0.Body)))])] st K := by
  refine ACalls.of F_syntax_Size (Nat.le_of_ble_eq_true rfl) fun hwf => ?_
  rw [args0_1]
  refine entry_nil ?_
  unfold x_syntax_Size
  rw [d_syntax_Size] at hr
  refine x_seq ?_
  refine x_region ?_
  unfold x_syntax_Size_r0
  refine o_box (k := 0) rfl rfl (e_t e_hit) pc_agg (by exact rfl) ?_
  refine o_move e_c ?_
  refine o_move e_c ?_
  refine run_nil ?_
  refine k_then ?_
  refine x_seq ?_
  refine x_region ?_
  unfold x_syntax_Size_r1
  refine o_fa (e_t (e_m2 rfl e_hit)) (by exact rfl) ?_
  refine o_load (e_t e_hit) ((g_ext rfl 0).trans rfl) (by exact rfl) ?_
  obtain ⟨v1, hc_v1, hr⟩ := bind_some hr
  refine o_call (a_cons (e_t e_hit) fz_d (a_cons e_c fz_d (a_cons e_c fz_fn a_nil))) ?_
  refine c_syntax_all_api_Stmt n p0.Body (0 : Int) (fun (a0 : T_api_Stmt) (a1 : Int) => d_syntax_sizeStmt n a0 a1) (fun a0 a1 {_} hr {_ _} hk => c_syntax_sizeStmt n a0 a1 hr hk) (fun _ => rfl) hc_v1 ?_
  refine o_alloc (k := 1) rfl rfl ?_
  refine o_store (e_t e_hit) ((g_ext rfl 1).trans rfl) (e_t (e_miss rfl e_hit)) pc_agg rfl (Nat.le_of_ble_eq_true rfl) (by exact rfl) (cells' := [(.d (.int .i64 v1.nodes)), (.d (.int .i64 v1.depth))]) (by exact rfl) (s_ext rfl _ _) ?_
  refine run_nil ?_
  refine k_then ?_
  refine x_seq ?_
  refine x_region ?_
  unfold x_syntax_Size_r2
  refine o_call (a_cons (e_t e_hit) fz_ptr a_nil) ?_
  refine c_syntax_size_told v1 rfl ((g_ext rfl 1).trans rfl) ?_
  refine o_ext (e_t e_hit) (by exact rfl) ?_
  refine o_ext (e_t (e_miss rfl e_hit)) (by exact rfl) ?_
  refine o_move (e_t (e_miss rfl e_hit)) ?_
  refine o_move (e_t (e_miss rfl e_hit)) ?_
  refine run_nil ?_
  refine k_then ?_
  refine x_ret ?_
  cases hr
  exact retK (r_tmp (e_miss rfl e_hit) (r_tmp e_hit r_nil)) (p_list (f1_cons f1_d (f1_cons f1_d f1_nil)) rfl) (cutS_wf hwf) h

def d_syntax_within (p0 : Int) (p1 : Int) (p2 : Int) : Bool :=
  (bif (decide (p1 ≤ p0)) then (decide (p0 ≤ p2)) else false)
set_option maxRecDepth 100000 in
set_option maxHeartbeats 4000000 in
theorem c_syntax_within (p0 : Int) (p1 : Int) (p2 : Int) {r : Bool} (hr : d_syntax_within p0 p1 p2 = r) {K : PV → List Content → Prop} (h : K (.d (.bool r)) st) : ACalls PR n_syntax_within [(.d (.int .i64 p0)), (.d (.int .i64 p1)), (.d (.int .i64 p2))] st K := by
  refine ACalls.of F_syntax_within (Nat.le_of_ble_eq_true rfl) fun hwf => ?_
  rw [args0_3]
  refine entry_nil ?_
  unfold x_syntax_within
  rw [d_syntax_within] at hr
  refine x_seq ?_
  refine x_region ?_
  unfold x_syntax_within_r0
  refine o_move e_c ?_
  refine run_nil ?_
  refine k_then ?_
  refine x_seq ?_
  refine x_region ?_
  unfold x_syntax_within_r1
  refine run_app ?_
  unfold x_syntax_within_r1s0
  refine o_move (e_t (e_miss rfl e_hit)) ?_
  refine o_move (e_t (e_m2 rfl (e_miss rfl e_hit))) ?_
  refine o_bin (e_t (e_miss rfl e_hit)) (e_t e_hit) (b_geqL ?_)
  refine o_move (e_t e_hit) ?_
  refine g_splitL e_hit hr (fun hr => ?_) (fun hr => ?_)
  rotate_left
  · refine g_skip e_hit ?_
    refine g_skip (e_miss rfl e_hit) ?_
    refine g_skip (e_m2 rfl e_hit) ?_
    refine o_pick_f (e_t (e_m2 rfl (e_miss rfl e_hit))) e_c ?_
    refine run_nil ?_
    unfold x_syntax_within_r1s1
    refine o_move (e_t e_hit) ?_
    refine run_nil ?_
    refine k_then ?_
    refine x_ret ?_
    subst hr
    exact retK (r_tmp e_hit r_nil) (p_one fz_d v_d) (cutS_wf hwf) h
  refine g_run e_hit ?_
  refine o_move (e_t (e_m4 rfl (e_m2 rfl e_hit))) ?_
  refine g_run (e_miss rfl e_hit) ?_
  refine o_move (e_t (e_m4 rfl (e_m4 rfl (e_miss rfl e_hit)))) ?_
  refine g_run (e_m2 rfl e_hit) ?_
  refine o_bin (e_t (e_miss rfl e_hit)) (e_t e_hit) (b_leq ?_)
  refine o_pick_t (e_t (e_m2 rfl (e_miss rfl e_hit))) (e_t e_hit) ?_
  refine run_nil ?_
  unfold x_syntax_within_r1s1
  refine o_move (e_t e_hit) ?_
  refine run_nil ?_
  refine k_then ?_
  refine x_ret ?_
  subst hr
  exact retK (r_tmp e_hit r_nil) (p_one fz_d v_d) (cutS_wf hwf) h

def d_schema_letter (p0 : Int) : Bool :=
  (bif (decide ((97 : Int) ≤ p0)) then (decide (p0 ≤ (122 : Int))) else false)
set_option maxRecDepth 100000 in
set_option maxHeartbeats 4000000 in
theorem c_schema_letter (p0 : Int) {r : Bool} (hr : d_schema_letter p0 = r) {K : PV → List Content → Prop} (h : K (.d (.bool r)) st) : ACalls PR n_schema_letter [(.d (.int .u8 p0))] st K := by
  refine ACalls.of F_schema_letter (Nat.le_of_ble_eq_true rfl) fun hwf => ?_
  rw [args0_1]
  refine entry_nil ?_
  unfold x_schema_letter
  rw [d_schema_letter] at hr
  refine x_seq ?_
  refine x_region ?_
  unfold x_schema_letter_r0
  refine o_move e_c ?_
  refine run_nil ?_
  refine k_then ?_
  refine x_seq ?_
  refine x_region ?_
  unfold x_schema_letter_r1
  refine run_app ?_
  unfold x_schema_letter_r1s0
  refine o_move (e_t (e_miss rfl e_hit)) ?_
  refine o_bin (e_t e_hit) e_c (b_geqL ?_)
  refine o_move (e_t e_hit) ?_
  refine g_splitL e_hit hr (fun hr => ?_) (fun hr => ?_)
  rotate_left
  · refine g_skip e_hit ?_
    refine g_skip (e_miss rfl e_hit) ?_
    refine o_pick_f (e_t (e_m2 rfl e_hit)) e_c ?_
    refine run_nil ?_
    unfold x_schema_letter_r1s1
    refine o_move (e_t e_hit) ?_
    refine run_nil ?_
    refine k_then ?_
    refine x_ret ?_
    subst hr
    exact retK (r_tmp e_hit r_nil) (p_one fz_d v_d) (cutS_wf hwf) h
  refine g_run e_hit ?_
  refine o_move (e_t (e_m4 rfl (e_miss rfl e_hit))) ?_
  refine g_run (e_miss rfl e_hit) ?_
  refine o_bin (e_t e_hit) e_c (b_leq ?_)
  refine o_pick_t (e_t (e_m2 rfl e_hit)) (e_t e_hit) ?_
  refine run_nil ?_
  unfold x_schema_letter_r1s1
  refine o_move (e_t e_hit) ?_
  refine run_nil ?_
  refine k_then ?_
  refine x_ret ?_
  subst hr
  exact retK (r_tmp e_hit r_nil) (p_one fz_d v_d) (cutS_wf hwf) h

def d_schema_part (p0 : Int) : Bool :=
  (bif (d_schema_letter p0) then true else (bif (decide ((48 : Int) ≤ p0)) then (bif (decide (p0 ≤ (57 : Int))) then true else (decide (p0 = (95 : Int)))) else (decide (p0 = (95 : Int)))))
set_option maxRecDepth 100000 in
set_option maxHeartbeats 4000000 in
theorem c_schema_part (p0 : Int) {r : Bool} (hr : d_schema_part p0 = r) {K : PV → List Content → Prop} (h : K (.d (.bool r)) st) : ACalls PR n_schema_part [(.d (.int .u8 p0))] st K := by
  refine ACalls.of F_schema_part (Nat.le_of_ble_eq_true rfl) fun hwf => ?_
  rw [args0_1]
  refine entry_nil ?_
  unfold x_schema_part
  rw [d_schema_part] at hr
  refine x_seq ?_
  refine x_region ?_
  unfold x_schema_part_r0
  refine o_move e_c ?_
  refine run_nil ?_
  refine k_then ?_
  refine x_seq ?_
  refine x_region ?_
  unfold x_schema_part_r1
  refine run_app ?_
  unfold x_schema_part_r1s0
  refine o_move (e_t (e_miss rfl e_hit)) ?_
  refine o_call (a_cons (e_t e_hit) fz_d a_nil) ?_
  refine c_schema_letter p0 rfl ?_
  refine o_move (e_t e_hit) ?_
  refine g_splitL e_hit hr (fun hr => ?_) (fun hr => ?_)
  · refine g_skip e_hit ?_
    refine g_skip (e_miss rfl e_hit) ?_
    refine g_skip (e_m2 rfl e_hit) ?_
    refine g_none e_hit ?_
    refine g_none (e_miss rfl e_hit) ?_
    refine g_skip (e_m4 rfl (e_miss rfl e_hit)) ?_
    refine o_pick_t (e_t (e_m4 rfl (e_m2 rfl e_hit))) e_c ?_
    refine run_nil ?_
    refine run_app ?_
    unfold x_schema_part_r1s1
    refine o_move (e_t e_hit) ?_
    refine g_skip e_hit ?_
    refine g_skip (e_miss rfl e_hit) ?_
    refine o_pick_t (e_t (e_m2 rfl e_hit)) e_c ?_
    refine run_nil ?_
    unfold x_schema_part_r1s2
    refine o_move (e_t e_hit) ?_
    refine run_nil ?_
    refine k_then ?_
    refine x_ret ?_
    subst hr
    exact retK (r_tmp e_hit r_nil) (p_one fz_d v_d) (cutS_wf hwf) h
  refine g_run e_hit ?_
  refine o_move (e_t (e_m4 rfl (e_miss rfl e_hit))) ?_
  refine g_run (e_miss rfl e_hit) ?_
  refine o_bin (e_t e_hit) e_c (b_geqL ?_)
  refine g_run (e_m2 rfl e_hit) ?_
  refine o_move (e_t e_hit) ?_
  refine g_splitL e_hit hr (fun hr => ?_) (fun hr => ?_)
  rotate_left
  · refine g_skip e_hit ?_
    refine g_skip (e_miss rfl e_hit) ?_
    refine g_run (e_m4 rfl (e_m2 rfl e_hit)) ?_
    refine o_pick_f (e_t (e_m2 rfl e_hit)) e_c ?_
    refine o_pick_f (e_t (e_m4 rfl (e_m2 rfl (e_miss rfl e_hit)))) (e_t e_hit) ?_
    refine run_nil ?_
    refine run_app ?_
    unfold x_schema_part_r1s1
    refine o_move (e_t e_hit) ?_
    refine g_run e_hit ?_
    refine o_move (e_t (e_m4 rfl (e_m4 rfl (e_m4 rfl (e_m2 rfl e_hit))))) ?_
    refine g_run (e_miss rfl e_hit) ?_
    refine o_bin (e_t e_hit) e_c (b_eql ?_)
    refine o_pick_f (e_t (e_m2 rfl e_hit)) (e_t e_hit) ?_
    refine run_nil ?_
    unfold x_schema_part_r1s2
    refine o_move (e_t e_hit) ?_
    refine run_nil ?_
    refine k_then ?_
    refine x_ret ?_
    subst hr
    exact retK (r_tmp e_hit r_nil) (p_one fz_d v_d) (cutS_wf hwf) h
  refine g_run e_hit ?_
  refine o_move (e_t (e_m4 rfl (e_m4 rfl (e_miss rfl e_hit)))) ?_
  refine g_run (e_miss rfl e_hit) ?_
  refine o_bin (e_t e_hit) e_c (b_leq ?_)
  refine g_run (e_m4 rfl (e_m2 rfl e_hit)) ?_
  refine o_pick_t (e_t (e_m2 rfl e_hit)) (e_t e_hit) ?_
  refine o_pick_f (e_t (e_m4 rfl (e_m2 rfl (e_miss rfl e_hit)))) (e_t e_hit) ?_
  refine run_nil ?_
  refine run_app ?_
  unfold x_schema_part_r1s1
  refine o_move (e_t e_hit) ?_
  refine g_splitL e_hit hr (fun hr => ?_) (fun hr => ?_)
  · refine g_skip e_hit ?_
    refine g_skip (e_miss rfl e_hit) ?_
    refine o_pick_t (e_t (e_m2 rfl e_hit)) e_c ?_
    refine run_nil ?_
    unfold x_schema_part_r1s2
    refine o_move (e_t e_hit) ?_
    refine run_nil ?_
    refine k_then ?_
    refine x_ret ?_
    subst hr
    exact retK (r_tmp e_hit r_nil) (p_one fz_d v_d) (cutS_wf hwf) h
  refine g_run e_hit ?_
  refine o_move (e_t (e_m4 rfl (e_m4 rfl (e_m4 rfl (e_m2 rfl (e_miss rfl e_hit)))))) ?_
  refine g_run (e_miss rfl e_hit) ?_
  refine o_bin (e_t e_hit) e_c (b_eql ?_)
  refine o_pick_f (e_t (e_m2 rfl e_hit)) (e_t e_hit) ?_
  refine run_nil ?_
  unfold x_schema_part_r1s2
  refine o_move (e_t e_hit) ?_
  refine run_nil ?_
  refine k_then ?_
  refine x_ret ?_
  subst hr
  exact retK (r_tmp e_hit r_nil) (p_one fz_d v_d) (cutS_wf hwf) h

def d_schema_named_l0b (p0 : ByteArray) (rec_l_0 : Int → Option Bool) (v4 : Int) : Option Bool :=
  (bif (decide (v4 < ((bytesL p0).length : Int))) then ((idxL (bytesL p0) v4).bind fun v5 => (bif (!(d_schema_part v5)) then some false else rec_l_0 (IntKind.wrap .i64 (v4 + (1 : Int))))) else some true)
def d_schema_named_l0 (p0 : ByteArray) : Nat → Int → Option Bool
  | 0, _ => none
  | m + 1, v4 => d_schema_named_l0b p0 (d_schema_named_l0 p0 m) v4
def d_schema_named_j0 (p0 : ByteArray) (n : Nat) (v3 : Bool) : Option Bool :=
  (bif v3 then some false else (d_schema_named_l0 p0 n (0 : Int)))
def d_schema_named_j1 (p0 : ByteArray) (n : Nat) (v1 : Bool) : Option Bool :=
  (bif v1 then (d_schema_named_j0 p0 n true) else ((idxS p0 (0 : Int)).bind fun v2 => (d_schema_named_j0 p0 n (!(d_schema_letter v2)))))
def d_schema_named (n : Nat) (p0 : ByteArray) : Option Bool :=
  (bif (decide (p0 = (⟨#[]⟩ : ByteArray))) then (d_schema_named_j1 p0 n true) else (d_schema_named_j1 p0 n (decide ((16 : Int) < (p0.size : Int)))))
set_option maxRecDepth 100000 in
set_option maxHeartbeats 4000000 in
theorem c_schema_named (n : Nat) (p0 : ByteArray) {r : Bool} (hr : d_schema_named n p0 = some r) {K : PV → List Content → Prop} (h : K (.d (.bool r)) st) : ACalls PR n_schema_named [(.d (.str p0))] st K := by
  refine ACalls.of F_schema_named (Nat.le_of_ble_eq_true rfl) fun hwf => ?_
  rw [args0_1]
  refine entry_nil ?_
  unfold x_schema_named
  rw [d_schema_named] at hr
  refine x_seq ?_
  refine x_region ?_
  unfold x_schema_named_r0
  refine o_move e_c ?_
  refine run_nil ?_
  refine k_then ?_
  refine x_seq ?_
  refine x_join (fun f st' => ∃ (v3 : Bool), d_schema_named_j0 p0 n v3 = some r ∧ f 0 = (.d (.str p0)) ∧ f 17 = (.d (.bool v3)) ∧ st' = st ++ []) ?_ ?_
  · refine x_region ?_
    unfold x_schema_named_r1
    refine run_join (fun f st' => ∃ (v1 : Bool), d_schema_named_j1 p0 n v1 = some r ∧ f 0 = (.d (.str p0)) ∧ f 11 = (.d (.bool v1)) ∧ st' = st ++ []) ?_ ?_
    · unfold x_schema_named_r1s0
      refine o_move (e_t (e_miss rfl e_hit)) ?_
      refine o_bin (e_t e_hit) e_c (b_seql ?_)
      refine o_move (e_t e_hit) ?_
      refine g_splitL e_hit hr (fun hr => ?_) (fun hr => ?_)
      · refine g_skip e_hit ?_
        refine g_skip (e_miss rfl e_hit) ?_
        refine g_skip (e_m2 rfl e_hit) ?_
        refine o_pick_t (e_t (e_m2 rfl (e_miss rfl e_hit))) e_c ?_
        refine run_nil ?_
        exact ⟨true, hr, (e_m4 rfl (e_m4 rfl (e_miss rfl e_hit))), e_hit, rfl⟩
      refine g_run e_hit ?_
      refine o_move (e_t (e_m4 rfl (e_miss rfl e_hit))) ?_
      refine g_run (e_miss rfl e_hit) ?_
      refine o_lenS (e_t e_hit) ?_
      refine g_run (e_m2 rfl e_hit) ?_
      refine o_bin (e_t e_hit) e_c (b_gtrL ?_)
      refine o_pick_f (e_t (e_m2 rfl (e_miss rfl e_hit))) (e_t e_hit) ?_
      refine run_nil ?_
      exact ⟨(decide ((16 : Int) < (p0.size : Int))), hr, (e_m4 rfl (e_m4 rfl (e_miss rfl e_hit))), e_hit, rfl⟩
    rintro f st' ⟨v1, hr, h0, h11, rfl⟩
    rw [d_schema_named_j1] at hr
    unfold x_schema_named_r1s1
    refine o_move (e_t h11) ?_
    refine g_splitL e_hit hr (fun hr => ?_) (fun hr => ?_)
    · refine g_skip e_hit ?_
      refine g_skip (e_miss rfl e_hit) ?_
      refine g_skip (e_m2 rfl e_hit) ?_
      refine g_skip (e_m2 rfl (e_miss rfl e_hit)) ?_
      refine o_pick_t (e_t (e_m4 rfl e_hit)) e_c ?_
      refine run_nil ?_
      refine k_then ?_
      exact ⟨true, hr, (e_m4 rfl (e_m2 rfl (e_miss rfl h0))), e_hit, rfl⟩
    refine g_run e_hit ?_
    refine o_move (e_t (e_m2 rfl h0)) ?_
    refine g_run (e_miss rfl e_hit) ?_
    refine o_idxSL (e_t e_hit) e_c hr (fun v2 hr => ?_)
    refine g_run (e_m2 rfl e_hit) ?_
    refine o_call (a_cons (e_t e_hit) fz_d a_nil) ?_
    refine c_schema_letter v2 rfl ?_
    refine g_run (e_m2 rfl (e_miss rfl e_hit)) ?_
    refine o_not (e_t e_hit) ?_
    refine o_pick_f (e_t (e_m4 rfl e_hit)) (e_t e_hit) ?_
    refine run_nil ?_
    refine k_then ?_
    exact ⟨(!(d_schema_letter v2)), hr, (e_m4 rfl (e_m2 rfl (e_miss rfl h0))), e_hit, rfl⟩
  rintro f st' ⟨v3, hr, h0, h17, rfl⟩
  rw [d_schema_named_j0] at hr
  refine x_condL (e_t h17) hr (fun hr => ?_) (fun hr => ?_)
  · refine x_seq ?_
    refine x_region ?_
    unfold x_schema_named_r2
    refine o_move e_c ?_
    refine run_nil ?_
    refine k_then ?_
    refine x_ret ?_
    refine k_thenR ?_
    cases hr
    exact retK (r_tmp e_hit r_nil) (p_one fz_d v_d) (cutS_wf hwf) h
  refine x_skip ?_
  refine k_then ?_
  refine x_seq ?_
  refine x_seq ?_
  refine x_region ?_
  unfold x_schema_named_r3
  refine o_move (e_t h0) ?_
  refine o_toBytesL (e_t e_hit) ?_
  refine o_lenL (row := (rI .u8)) (ar_of (e_t e_hit) ar_d) ?_
  refine o_move e_c ?_
  refine run_nil ?_
  refine k_then ?_
  refine x_block ?_
  refine x_loopL (fun m f st' => ∃ (v4 : Int), d_schema_named_l0 p0 m v4 = some r ∧ f 19 = (.d (.sl (List.map (rI .u8) (bytesL p0)))) ∧ f 20 = (.d (.int .i64 ((bytesL p0).length : Int))) ∧ f 21 = (.d (.int .i64 v4)) ∧ st' = st ++ []) n (Ghost.refl _) ⟨(0 : Int), hr, (e_m2 rfl e_hit), (e_miss rfl e_hit), e_hit, rfl⟩ ?_
  rintro m f st' ⟨v4, hr, h19, h20, h21, rfl⟩
  cases m with
  | zero => cases hr
  | succ m_0 =>
    rw [d_schema_named_l0] at hr
    generalize hrec_0 : d_schema_named_l0 p0 m_0 = rec_l_0 at hr
    rw [d_schema_named_l0b] at hr
    unfold x_schema_named_l9
    refine x_seq ?_
    refine x_region ?_
    unfold x_schema_named_r4
    refine o_bin (e_t h21) (e_t h20) (b_lss ?_)
    refine run_nil ?_
    refine k_then ?_
    refine x_seq ?_
    refine x_condL (e_t e_hit) hr (fun hr => ?_) (fun hr => ?_)
    rotate_left
    · refine x_exit ?_
      refine k_thenE ?_
      refine k_thenE ?_
      refine k_inE ?_
      refine k_then ?_
      refine x_seq ?_
      refine x_region ?_
      unfold x_schema_named_r10
      refine o_move e_c ?_
      refine run_nil ?_
      refine k_then ?_
      refine x_ret ?_
      cases hr
      exact retK (r_tmp e_hit r_nil) (p_one fz_d v_d) (cutS_wf hwf) h
    refine x_skip ?_
    refine k_then ?_
    refine x_seq ?_
    refine x_block ?_
    refine x_seq ?_
    refine x_region ?_
    unfold x_schema_named_r5
    refine o_idxL (row := (rI .u8)) (ar_of (e_t (e_miss rfl h19)) ar_d) (e_t (e_miss rfl h21)) hr (fun _ => rfl) (fun _ => rfl) (fun v5 hr => ?_)
    refine o_loadD (e_t e_hit) (by exact rfl) ?_
    refine o_move (e_t e_hit) ?_
    refine run_nil ?_
    refine k_then ?_
    refine x_seq ?_
    refine x_region ?_
    unfold x_schema_named_r6
    refine o_move (e_t e_hit) ?_
    refine o_call (a_cons (e_t e_hit) fz_d a_nil) ?_
    refine c_schema_part v5 rfl ?_
    refine o_not (e_t e_hit) ?_
    refine run_nil ?_
    refine k_then ?_
    refine x_condL (e_t e_hit) hr (fun hr => ?_) (fun hr => ?_)
    rotate_left
    · refine x_skip ?_
      refine k_inN ?_
      refine k_then ?_
      refine x_region ?_
      unfold x_schema_named_r8
      refine o_bin (e_t (e_m4 rfl (e_m2 rfl (e_miss rfl h21)))) e_c (b_add ?_)
      refine o_move (e_t e_hit) ?_
      refine run_nil ?_
      refine k_then ?_
      exact ⟨m_0, _, Nat.lt_succ_self m_0, Ghost.refl _, (IntKind.wrap .i64 (v4 + (1 : Int))), (by rw [hrec_0]; exact hr), (e_m4 rfl (e_m4 rfl (e_miss rfl h19))), (e_m4 rfl (e_m4 rfl (e_miss rfl h20))), e_hit, rfl⟩
    refine x_seq ?_
    refine x_region ?_
    unfold x_schema_named_r7
    refine o_move e_c ?_
    refine run_nil ?_
    refine k_then ?_
    refine x_ret ?_
    refine k_inR ?_
    refine k_thenR ?_
    refine k_thenR ?_
    refine k_inR ?_
    refine k_thenR ?_
    cases hr
    exact retK (r_tmp e_hit r_nil) (p_one fz_d v_d) (cutS_wf hwf) h

def d_schema_Named_l0b (p0 : (List ByteArray)) (n : Nat) (rec_l_0 : Int → Option Bool) (v1 : Int) : Option Bool :=
  (bif (decide (v1 < (p0.length : Int))) then ((idxL p0 v1).bind fun v2 => ((d_schema_named n v2).bind fun v3 => (bif (!v3) then some false else rec_l_0 (IntKind.wrap .i64 (v1 + (1 : Int)))))) else some true)
def d_schema_Named_l0 (p0 : (List ByteArray)) (n : Nat) : Nat → Int → Option Bool
  | 0, _ => none
  | m + 1, v1 => d_schema_Named_l0b p0 n (d_schema_Named_l0 p0 n m) v1
def d_schema_Named (n : Nat) (p0 : (List ByteArray)) : Option Bool :=
  (d_schema_Named_l0 p0 n n (0 : Int))
set_option maxRecDepth 100000 in
set_option maxHeartbeats 4000000 in
theorem c_schema_Named (n : Nat) (p0 : (List ByteArray)) {r : Bool} (hr : d_schema_Named n p0 = some r) {K : PV → List Content → Prop} (h : K (.d (.bool r)) st) : ACalls PR n_schema_Named [(.d (.sl (List.map rS p0)))] st K := by
  refine ACalls.of F_schema_Named (Nat.le_of_ble_eq_true rfl) fun hwf => ?_
  rw [args0_1]
  refine entry_nil ?_
  unfold x_schema_Named
  rw [d_schema_Named] at hr
  refine x_seq ?_
  refine x_region ?_
  unfold x_schema_Named_r0
  refine o_move e_c ?_
  refine run_nil ?_
  refine k_then ?_
  refine x_seq ?_
  refine x_seq ?_
  refine x_region ?_
  unfold x_schema_Named_r1
  refine o_move (e_t (e_miss rfl e_hit)) ?_
  refine o_lenL (row := rS) (ar_of (e_t e_hit) ar_d) ?_
  refine o_move e_c ?_
  refine run_nil ?_
  refine k_then ?_
  refine x_block ?_
  refine x_loopL (fun m f st' => ∃ (v1 : Int), d_schema_Named_l0 p0 n m v1 = some r ∧ f 5 = (.d (.sl (List.map rS p0))) ∧ f 6 = (.d (.int .i64 (p0.length : Int))) ∧ f 7 = (.d (.int .i64 v1)) ∧ st' = st ++ []) n (Ghost.refl _) ⟨(0 : Int), hr, (e_m2 rfl e_hit), (e_miss rfl e_hit), e_hit, rfl⟩ ?_
  rintro m f st' ⟨v1, hr, h5, h6, h7, rfl⟩
  cases m with
  | zero => cases hr
  | succ m_0 =>
    rw [d_schema_Named_l0] at hr
    generalize hrec_0 : d_schema_Named_l0 p0 n m_0 = rec_l_0 at hr
    rw [d_schema_Named_l0b] at hr
    unfold x_schema_Named_l7
    refine x_seq ?_
    refine x_region ?_
    unfold x_schema_Named_r2
    refine o_bin (e_t h7) (e_t h6) (b_lss ?_)
    refine run_nil ?_
    refine k_then ?_
    refine x_seq ?_
    refine x_condL (e_t e_hit) hr (fun hr => ?_) (fun hr => ?_)
    rotate_left
    · refine x_exit ?_
      refine k_thenE ?_
      refine k_thenE ?_
      refine k_inE ?_
      refine k_then ?_
      refine x_seq ?_
      refine x_region ?_
      unfold x_schema_Named_r8
      refine o_move e_c ?_
      refine run_nil ?_
      refine k_then ?_
      refine x_ret ?_
      cases hr
      exact retK (r_tmp e_hit r_nil) (p_one fz_d v_d) (cutS_wf hwf) h
    refine x_skip ?_
    refine k_then ?_
    refine x_seq ?_
    refine x_block ?_
    refine x_seq ?_
    refine x_region ?_
    unfold x_schema_Named_r3
    refine o_idxL (row := rS) (ar_of (e_t (e_miss rfl h5)) ar_d) (e_t (e_miss rfl h7)) hr (fun _ => rfl) (fun _ => rfl) (fun v2 hr => ?_)
    refine o_loadD (e_t e_hit) (by exact rfl) ?_
    refine o_move (e_t e_hit) ?_
    refine run_nil ?_
    refine k_then ?_
    refine x_seq ?_
    refine x_region ?_
    unfold x_schema_Named_r4
    refine o_move (e_t e_hit) ?_
    obtain ⟨v3, hc_v3, hr⟩ := bind_some hr
    refine o_call (a_cons (e_t e_hit) fz_d a_nil) ?_
    refine c_schema_named n v2 hc_v3 ?_
    refine o_not (e_t e_hit) ?_
    refine run_nil ?_
    refine k_then ?_
    refine x_condL (e_t e_hit) hr (fun hr => ?_) (fun hr => ?_)
    rotate_left
    · refine x_skip ?_
      refine k_inN ?_
      refine k_then ?_
      refine x_region ?_
      unfold x_schema_Named_r6
      refine o_bin (e_t (e_m4 rfl (e_m2 rfl (e_miss rfl h7)))) e_c (b_add ?_)
      refine o_move (e_t e_hit) ?_
      refine run_nil ?_
      refine k_then ?_
      exact ⟨m_0, _, Nat.lt_succ_self m_0, Ghost.refl _, (IntKind.wrap .i64 (v1 + (1 : Int))), (by rw [hrec_0]; exact hr), (e_m4 rfl (e_m4 rfl (e_miss rfl h5))), (e_m4 rfl (e_m4 rfl (e_miss rfl h6))), e_hit, rfl⟩
    refine x_seq ?_
    refine x_region ?_
    unfold x_schema_Named_r5
    refine o_move e_c ?_
    refine run_nil ?_
    refine k_then ?_
    refine x_ret ?_
    refine k_inR ?_
    refine k_thenR ?_
    refine k_thenR ?_
    refine k_inR ?_
    refine k_thenR ?_
    cases hr
    exact retK (r_tmp e_hit r_nil) (p_one fz_d v_d) (cutS_wf hwf) h

def d_slices_IndexFunc_string_string_l0b (p0 : (List ByteArray)) (fn1 : ByteArray → Option Bool) (rec_l_0 : Int → Option Int) (v1 : Int) : Option Int :=
  (bif (decide (v1 < (p0.length : Int))) then ((idxL p0 v1).bind fun v2 => ((fn1 v2).bind fun v3 => (bif v3 then some v1 else rec_l_0 (IntKind.wrap .i64 (v1 + (1 : Int)))))) else some (-1))
def d_slices_IndexFunc_string_string_l0 (p0 : (List ByteArray)) (fn1 : ByteArray → Option Bool) : Nat → Int → Option Int
  | 0, _ => none
  | m + 1, v1 => d_slices_IndexFunc_string_string_l0b p0 fn1 (d_slices_IndexFunc_string_string_l0 p0 fn1 m) v1
def d_slices_IndexFunc_string_string (n : Nat) (p0 : (List ByteArray)) (fn1 : ByteArray → Option Bool) : Option Int :=
  (d_slices_IndexFunc_string_string_l0 p0 fn1 n (0 : Int))
set_option maxRecDepth 100000 in
set_option maxHeartbeats 4000000 in
theorem c_slices_IndexFunc_string_string (n : Nat) (p0 : (List ByteArray)) (fn1 : ByteArray → Option Bool) {g_fn1 : FuncId} {p_fn1 q_fn1 : List PV} (H_fn1 : ∀ (a0 : ByteArray) {r : Bool}, fn1 a0 = some r → ∀ {st : List Content} {K : PV → List Content → Prop}, K (.d (.bool r)) st → ACalls PR g_fn1 (p_fn1 ++ [(.d (.str a0))] ++ q_fn1) st K) (B_fn1 : ∀ n, (belowB.belowL n p_fn1 && belowB.belowL n q_fn1) = true) {r : Int} (hr : d_slices_IndexFunc_string_string n p0 fn1 = some r) {K : PV → List Content → Prop} (h : K (.d (.int .i64 r)) st) : ACalls PR n_slices_IndexFunc_string_string [(.d (.sl (List.map rS p0))), (.fn g_fn1 p_fn1 q_fn1)] st K := by
  refine ACalls.of F_slices_IndexFunc_string_string (Nat.le_of_ble_eq_true rfl) fun hwf => ?_
  rw [args0_2]
  refine entry_nil ?_
  unfold x_slices_IndexFunc_string_string
  rw [d_slices_IndexFunc_string_string] at hr
  refine x_seq ?_
  refine x_region ?_
  unfold x_slices_IndexFunc_string_string_r0
  refine o_move e_c ?_
  refine run_nil ?_
  refine k_then ?_
  refine x_seq ?_
  refine x_seq ?_
  refine x_region ?_
  unfold x_slices_IndexFunc_string_string_r1
  refine o_move (e_t (e_miss rfl e_hit)) ?_
  refine o_lenL (row := rS) (ar_of (e_t e_hit) ar_d) ?_
  refine o_move e_c ?_
  refine run_nil ?_
  refine k_then ?_
  refine x_block ?_
  refine x_loopL (fun m f st' => ∃ (v1 : Int), d_slices_IndexFunc_string_string_l0 p0 fn1 m v1 = some r ∧ f 0 = (.d (.sl (List.map rS p0))) ∧ f 1 = (.fn g_fn1 p_fn1 q_fn1) ∧ f 7 = (.d (.int .i64 (p0.length : Int))) ∧ f 8 = (.d (.int .i64 v1)) ∧ st' = st ++ []) n (Ghost.refl _) ⟨(0 : Int), hr, (e_m4 rfl e_hit), (e_m4 rfl (e_miss rfl e_hit)), (e_miss rfl e_hit), e_hit, rfl⟩ ?_
  rintro m f st' ⟨v1, hr, h0, h1, h7, h8, rfl⟩
  cases m with
  | zero => cases hr
  | succ m_0 =>
    rw [d_slices_IndexFunc_string_string_l0] at hr
    generalize hrec_0 : d_slices_IndexFunc_string_string_l0 p0 fn1 m_0 = rec_l_0 at hr
    rw [d_slices_IndexFunc_string_string_l0b] at hr
    unfold x_slices_IndexFunc_string_string_l7
    refine x_seq ?_
    refine x_region ?_
    unfold x_slices_IndexFunc_string_string_r2
    refine o_bin (e_t h8) (e_t h7) (b_lss ?_)
    refine run_nil ?_
    refine k_then ?_
    refine x_seq ?_
    refine x_condL (e_t e_hit) hr (fun hr => ?_) (fun hr => ?_)
    rotate_left
    · refine x_exit ?_
      refine k_thenE ?_
      refine k_thenE ?_
      refine k_inE ?_
      refine k_then ?_
      refine x_seq ?_
      refine x_region ?_
      unfold x_slices_IndexFunc_string_string_r8
      refine o_move e_c ?_
      refine run_nil ?_
      refine k_then ?_
      refine x_ret ?_
      cases hr
      exact retK (r_tmp e_hit r_nil) (p_one fz_d v_d) (cutS_wf hwf) h
    refine x_skip ?_
    refine k_then ?_
    refine x_seq ?_
    refine x_block ?_
    refine x_seq ?_
    refine x_region ?_
    unfold x_slices_IndexFunc_string_string_r3
    refine o_move (e_t (e_miss rfl h8)) ?_
    refine o_move (e_t e_hit) ?_
    refine run_nil ?_
    refine k_then ?_
    refine x_seq ?_
    refine x_region ?_
    unfold x_slices_IndexFunc_string_string_r4
    refine o_move (e_t (e_m2 rfl (e_miss rfl h1))) ?_
    refine o_move (e_t (e_m4 rfl h0)) ?_
    refine o_move (e_t (e_m2 rfl e_hit)) ?_
    refine o_idxL (row := rS) (ar_of (e_t (e_miss rfl e_hit)) ar_d) (e_t e_hit) hr (fun _ => rfl) (fun _ => rfl) (fun v2 hr => ?_)
    refine o_loadD (e_t e_hit) (by exact rfl) ?_
    obtain ⟨v3, hc_v3, hr⟩ := bind_some hr
    refine o_dyn (e_t (e_m4 rfl e_hit)) (a_cons (e_t e_hit) fz_d a_nil) rfl ?_
    refine H_fn1 v2 hc_v3 ?_
    refine run_nil ?_
    refine k_then ?_
    refine x_condL (e_t e_hit) hr (fun hr => ?_) (fun hr => ?_)
    rotate_left
    · refine x_skip ?_
      refine k_inN ?_
      refine k_then ?_
      refine x_region ?_
      unfold x_slices_IndexFunc_string_string_r6
      refine o_bin (e_t (e_m4 rfl (e_m4 rfl (e_miss rfl h8)))) e_c (b_add ?_)
      refine o_move (e_t e_hit) ?_
      refine run_nil ?_
      refine k_then ?_
      exact ⟨m_0, _, Nat.lt_succ_self m_0, Ghost.refl _, (IntKind.wrap .i64 (v1 + (1 : Int))), (by rw [hrec_0]; exact hr), (e_m4 rfl (e_m4 rfl (e_m2 rfl (e_miss rfl h0)))), (e_m4 rfl (e_m4 rfl (e_m2 rfl (e_miss rfl h1)))), (e_m4 rfl (e_m4 rfl (e_m2 rfl (e_miss rfl h7)))), e_hit, rfl⟩
    refine x_seq ?_
    refine x_region ?_
    unfold x_slices_IndexFunc_string_string_r5
    refine o_move (e_t (e_m4 rfl (e_m2 rfl e_hit))) ?_
    refine o_move (e_t e_hit) ?_
    refine run_nil ?_
    refine k_then ?_
    refine x_ret ?_
    refine k_inR ?_
    refine k_thenR ?_
    refine k_thenR ?_
    refine k_inR ?_
    refine k_thenR ?_
    cases hr
    exact retK (r_tmp e_hit r_nil) (p_one fz_d v_d) (cutS_wf hwf) h

def d_slices_ContainsFunc_string_string (n : Nat) (p0 : (List ByteArray)) (fn1 : ByteArray → Option Bool) : Option Bool :=
  ((d_slices_IndexFunc_string_string n p0 fn1).bind fun v1 => some (decide ((0 : Int) ≤ v1)))
set_option maxRecDepth 100000 in
set_option maxHeartbeats 4000000 in
theorem c_slices_ContainsFunc_string_string (n : Nat) (p0 : (List ByteArray)) (fn1 : ByteArray → Option Bool) {g_fn1 : FuncId} {p_fn1 q_fn1 : List PV} (H_fn1 : ∀ (a0 : ByteArray) {r : Bool}, fn1 a0 = some r → ∀ {st : List Content} {K : PV → List Content → Prop}, K (.d (.bool r)) st → ACalls PR g_fn1 (p_fn1 ++ [(.d (.str a0))] ++ q_fn1) st K) (B_fn1 : ∀ n, (belowB.belowL n p_fn1 && belowB.belowL n q_fn1) = true) {r : Bool} (hr : d_slices_ContainsFunc_string_string n p0 fn1 = some r) {K : PV → List Content → Prop} (h : K (.d (.bool r)) st) : ACalls PR n_slices_ContainsFunc_string_string [(.d (.sl (List.map rS p0))), (.fn g_fn1 p_fn1 q_fn1)] st K := by
  refine ACalls.of F_slices_ContainsFunc_string_string (Nat.le_of_ble_eq_true rfl) fun hwf => ?_
  rw [args0_2]
  refine entry_nil ?_
  unfold x_slices_ContainsFunc_string_string
  rw [d_slices_ContainsFunc_string_string] at hr
  refine x_seq ?_
  refine x_region ?_
  unfold x_slices_ContainsFunc_string_string_r0
  refine o_move e_c ?_
  refine run_nil ?_
  refine k_then ?_
  refine x_seq ?_
  refine x_region ?_
  unfold x_slices_ContainsFunc_string_string_r1
  refine o_move (e_t (e_miss rfl e_hit)) ?_
  refine o_move (e_t (e_m2 rfl (e_miss rfl e_hit))) ?_
  obtain ⟨v1, hc_v1, hr⟩ := bind_some hr
  refine o_call (a_cons (e_t (e_miss rfl e_hit)) fz_d (a_cons (e_t e_hit) fz_fn a_nil)) ?_
  refine c_slices_IndexFunc_string_string n p0 fn1 H_fn1 B_fn1 hc_v1 ?_
  refine o_bin (e_t e_hit) e_c (b_geqL ?_)
  refine o_move (e_t e_hit) ?_
  refine run_nil ?_
  refine k_then ?_
  refine x_ret ?_
  cases hr
  exact retK (r_tmp e_hit r_nil) (p_one fz_d v_d) (cutS_wf hwf) h
end Go.Ax
