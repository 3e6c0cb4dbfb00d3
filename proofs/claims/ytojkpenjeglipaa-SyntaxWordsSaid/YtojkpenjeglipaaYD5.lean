import Derived.Test.YtojkpenjeglipaaYT
import Derived.Test.YtojkpenjeglipaaVX
import Derived.Test.YtojkpenjeglipaaPrim
set_option linter.unusedVariables false
set_option linter.unusedSimpArgs false
namespace Go.Ax
attribute [local irreducible] xexec xops xpre xrun xacc thenX inBlockX RetK XLoop upd ev u0 frzA frz asRows binK mmD bnd okAll fillP fillOk rowsOf toDs frz1 pack cutV tokC tokArgs
variable {st : List Content}

def d_slices_IndexFunc_api_Expr_api_Expr_l0b (p0 : (List T_api_Expr)) (fn1 : T_api_Expr → Option Bool) (rec_l_0 : Int → Option Int) (v1 : Int) : Option Int :=
  (bif (decide (v1 < (p0.length : Int))) then ((idxL p0 v1).bind fun v2 => ((fn1 v2).bind fun v3 => (bif v3 then some v1 else rec_l_0 (IntKind.wrap .i64 (v1 + (1 : Int)))))) else some (-1))
def d_slices_IndexFunc_api_Expr_api_Expr_l0 (p0 : (List T_api_Expr)) (fn1 : T_api_Expr → Option Bool) : Nat → Int → Option Int
  | 0, _ => none
  | m + 1, v1 => d_slices_IndexFunc_api_Expr_api_Expr_l0b p0 fn1 (d_slices_IndexFunc_api_Expr_api_Expr_l0 p0 fn1 m) v1
def d_slices_IndexFunc_api_Expr_api_Expr (n : Nat) (p0 : (List T_api_Expr)) (fn1 : T_api_Expr → Option Bool) : Option Int :=
  (d_slices_IndexFunc_api_Expr_api_Expr_l0 p0 fn1 n (0 : Int))
set_option maxRecDepth 100000 in
set_option maxHeartbeats 4000000 in
theorem c_slices_IndexFunc_api_Expr_api_Expr (n : Nat) (p0 : (List T_api_Expr)) (fn1 : T_api_Expr → Option Bool) {g_fn1 : FuncId} {p_fn1 q_fn1 : List PV} (H_fn1 : ∀ (a0 : T_api_Expr) {r : Bool}, fn1 a0 = some r → ∀ {st : List Content} {K : PV → List Content → Prop}, K (.d (.bool r)) st → ACalls PR g_fn1 (p_fn1 ++ [(.agg [(.d (.int .i64 a0.Op)), (.d (.int .i64 a0.N)), (.d (.str a0.S)), (.d (.str a0.Name)), (.d (.str a0.Src)), (.d (.sl (List.map T_api_Expr.row a0.Args)))])] ++ q_fn1) st K) (B_fn1 : ∀ n, (belowB.belowL n p_fn1 && belowB.belowL n q_fn1) = true) {r : Int} (hr : d_slices_IndexFunc_api_Expr_api_Expr n p0 fn1 = some r) {K : PV → List Content → Prop} (h : K (.d (.int .i64 r)) st) : ACalls PR n_slices_IndexFunc_api_Expr_api_Expr [(.d (.sl (List.map T_api_Expr.row p0))), (.fn g_fn1 p_fn1 q_fn1)] st K := by
  refine ACalls.of F_slices_IndexFunc_api_Expr_api_Expr (Nat.le_of_ble_eq_true rfl) fun hwf => ?_
  rw [args0_2]
  refine entry_nil ?_
  unfold x_slices_IndexFunc_api_Expr_api_Expr
  rw [d_slices_IndexFunc_api_Expr_api_Expr] at hr
  refine x_seq ?_
  refine x_region ?_
  unfold x_slices_IndexFunc_api_Expr_api_Expr_r0
  refine o_move e_c ?_
  refine run_nil ?_
  refine k_then ?_
  refine x_seq ?_
  refine x_seq ?_
  refine x_region ?_
  unfold x_slices_IndexFunc_api_Expr_api_Expr_r1
  refine o_move (e_t (e_miss rfl e_hit)) ?_
  refine o_lenL (row := T_api_Expr.row) (ar_of (e_t e_hit) ar_d) ?_
  refine o_move e_c ?_
  refine run_nil ?_
  refine k_then ?_
  refine x_block ?_
  refine x_loopL (fun m f st' => ∃ (v1 : Int), d_slices_IndexFunc_api_Expr_api_Expr_l0 p0 fn1 m v1 = some r ∧ f 0 = (.d (.sl (List.map T_api_Expr.row p0))) ∧ f 1 = (.fn g_fn1 p_fn1 q_fn1) ∧ f 7 = (.d (.int .i64 (p0.length : Int))) ∧ f 8 = (.d (.int .i64 v1)) ∧ st' = st ++ []) n (Ghost.refl _) ⟨(0 : Int), hr, (e_m4 rfl e_hit), (e_m4 rfl (e_miss rfl e_hit)), (e_miss rfl e_hit), e_hit, rfl⟩ ?_
  rintro m f st' ⟨v1, hr, h0, h1, h7, h8, rfl⟩
  cases m with
  | zero => cases hr
  | succ m_0 =>
    rw [d_slices_IndexFunc_api_Expr_api_Expr_l0] at hr
    generalize hrec_0 : d_slices_IndexFunc_api_Expr_api_Expr_l0 p0 fn1 m_0 = rec_l_0 at hr
    rw [d_slices_IndexFunc_api_Expr_api_Expr_l0b] at hr
    unfold x_slices_IndexFunc_api_Expr_api_Expr_l7
    refine x_seq ?_
    refine x_region ?_
    unfold x_slices_IndexFunc_api_Expr_api_Expr_r2
    refine o_bin (e_t h8) (e_t h7) (b_lss ?_)
    refine run_nil ?_
    refine k_then ?_
    refine x_seq ?_
    refine x_condL (e_t e_hit) hr (fun hr => ?_) (fun hr => ?_)
    rotate_left
    · refine x_exit ?_
      refine k_thenE ?_
      refine k_thenE ?_
      refine k_inE ?_
      refine k_then ?_
      refine x_seq ?_
      refine x_region ?_
      unfold x_slices_IndexFunc_api_Expr_api_Expr_r8
      refine o_move e_c ?_
      refine run_nil ?_
      refine k_then ?_
      refine x_ret ?_
      cases hr
      exact retK (r_tmp e_hit r_nil) (p_one fz_d v_d) (cutS_wf hwf) h
    refine x_skip ?_
    refine k_then ?_
    refine x_seq ?_
    refine x_block ?_
    refine x_seq ?_
    refine x_region ?_
    unfold x_slices_IndexFunc_api_Expr_api_Expr_r3
    refine o_move (e_t (e_miss rfl h8)) ?_
    refine o_move (e_t e_hit) ?_
    refine run_nil ?_
    refine k_then ?_
    refine x_seq ?_
    refine x_region ?_
    unfold x_slices_IndexFunc_api_Expr_api_Expr_r4
    refine o_move (e_t (e_m2 rfl (e_miss rfl h1))) ?_
    refine o_move (e_t (e_m4 rfl h0)) ?_
    refine o_move (e_t (e_m2 rfl e_hit)) ?_
    refine o_idxL (row := T_api_Expr.row) (ar_of (e_t (e_miss rfl e_hit)) ar_d) (e_t e_hit) hr T_api_Expr.row_eq (fun _ => rfl) (fun v2 hr => ?_)
    refine o_loadDA (e_t e_hit) (Nat.le_of_ble_eq_true rfl) (by exact rfl) ?_
    obtain ⟨v3, hc_v3, hr⟩ := bind_some hr
    refine o_dyn (e_t (e_m4 rfl e_hit)) (a_cons (e_t e_hit) (fz_agg (f_cons f_d (f_cons f_d (f_cons f_d (f_cons f_d (f_cons f_d (f_cons f_d f_nil))))))) a_nil) rfl ?_
    refine H_fn1 v2 hc_v3 ?_
    refine run_nil ?_
    refine k_then ?_
    refine x_condL (e_t e_hit) hr (fun hr => ?_) (fun hr => ?_)
    rotate_left
    · refine x_skip ?_
      refine k_inN ?_
      refine k_then ?_
      refine x_region ?_
      unfold x_slices_IndexFunc_api_Expr_api_Expr_r6
      refine o_bin (e_t (e_m4 rfl (e_m4 rfl (e_miss rfl h8)))) e_c (b_add ?_)
      refine o_move (e_t e_hit) ?_
      refine run_nil ?_
      refine k_then ?_
      exact ⟨m_0, _, Nat.lt_succ_self m_0, Ghost.refl _, (IntKind.wrap .i64 (v1 + (1 : Int))), (by rw [hrec_0]; exact hr), (e_m4 rfl (e_m4 rfl (e_m2 rfl (e_miss rfl h0)))), (e_m4 rfl (e_m4 rfl (e_m2 rfl (e_miss rfl h1)))), (e_m4 rfl (e_m4 rfl (e_m2 rfl (e_miss rfl h7)))), e_hit, rfl⟩
    refine x_seq ?_
    refine x_region ?_
    unfold x_slices_IndexFunc_api_Expr_api_Expr_r5
    refine o_move (e_t (e_m4 rfl (e_m2 rfl e_hit))) ?_
    refine o_move (e_t e_hit) ?_
    refine run_nil ?_
    refine k_then ?_
    refine x_ret ?_
    refine k_inR ?_
    refine k_thenR ?_
    refine k_thenR ?_
    refine k_inR ?_
    refine k_thenR ?_
    cases hr
    exact retK (r_tmp e_hit r_nil) (p_one fz_d v_d) (cutS_wf hwf) h

def d_slices_ContainsFunc_api_Expr_api_Expr (n : Nat) (p0 : (List T_api_Expr)) (fn1 : T_api_Expr → Option Bool) : Option Bool :=
  ((d_slices_IndexFunc_api_Expr_api_Expr n p0 fn1).bind fun v1 => some (decide ((0 : Int) ≤ v1)))
set_option maxRecDepth 100000 in
set_option maxHeartbeats 4000000 in
theorem c_slices_ContainsFunc_api_Expr_api_Expr (n : Nat) (p0 : (List T_api_Expr)) (fn1 : T_api_Expr → Option Bool) {g_fn1 : FuncId} {p_fn1 q_fn1 : List PV} (H_fn1 : ∀ (a0 : T_api_Expr) {r : Bool}, fn1 a0 = some r → ∀ {st : List Content} {K : PV → List Content → Prop}, K (.d (.bool r)) st → ACalls PR g_fn1 (p_fn1 ++ [(.agg [(.d (.int .i64 a0.Op)), (.d (.int .i64 a0.N)), (.d (.str a0.S)), (.d (.str a0.Name)), (.d (.str a0.Src)), (.d (.sl (List.map T_api_Expr.row a0.Args)))])] ++ q_fn1) st K) (B_fn1 : ∀ n, (belowB.belowL n p_fn1 && belowB.belowL n q_fn1) = true) {r : Bool} (hr : d_slices_ContainsFunc_api_Expr_api_Expr n p0 fn1 = some r) {K : PV → List Content → Prop} (h : K (.d (.bool r)) st) : ACalls PR n_slices_ContainsFunc_api_Expr_api_Expr [(.d (.sl (List.map T_api_Expr.row p0))), (.fn g_fn1 p_fn1 q_fn1)] st K := by
  refine ACalls.of F_slices_ContainsFunc_api_Expr_api_Expr (Nat.le_of_ble_eq_true rfl) fun hwf => ?_
  rw [args0_2]
  refine entry_nil ?_
  unfold x_slices_ContainsFunc_api_Expr_api_Expr
  rw [d_slices_ContainsFunc_api_Expr_api_Expr] at hr
  refine x_seq ?_
  refine x_region ?_
  unfold x_slices_ContainsFunc_api_Expr_api_Expr_r0
  refine o_move e_c ?_
  refine run_nil ?_
  refine k_then ?_
  refine x_seq ?_
  refine x_region ?_
  unfold x_slices_ContainsFunc_api_Expr_api_Expr_r1
  refine o_move (e_t (e_miss rfl e_hit)) ?_
  refine o_move (e_t (e_m2 rfl (e_miss rfl e_hit))) ?_
  obtain ⟨v1, hc_v1, hr⟩ := bind_some hr
  refine o_call (a_cons (e_t (e_miss rfl e_hit)) fz_d (a_cons (e_t e_hit) fz_fn a_nil)) ?_
  refine c_slices_IndexFunc_api_Expr_api_Expr n p0 fn1 H_fn1 B_fn1 hc_v1 ?_
  refine o_bin (e_t e_hit) e_c (b_geqL ?_)
  refine o_move (e_t e_hit) ?_
  refine run_nil ?_
  refine k_then ?_
  refine x_ret ?_
  cases hr
  exact retK (r_tmp e_hit r_nil) (p_one fz_d v_d) (cutS_wf hwf) h

def d_syntax_args_j2 (p0 : Int) (v3 : Bool) : (Int × Bool) :=
  (bif v3 then ((1 : Int), false) else (bif (decide (p0 = (21 : Int))) then ((1 : Int), true) else (bif (decide ((22 : Int) ≤ p0)) then (bif (decide (p0 ≤ (24 : Int))) then ((2 : Int), true) else ((-1), false)) else ((-1), false))))
def d_syntax_args_j1 (p0 : Int) (v2 : Bool) : (Int × Bool) :=
  (bif v2 then ((2 : Int), false) else (bif (decide (p0 = (19 : Int))) then (d_syntax_args_j2 p0 true) else (d_syntax_args_j2 p0 (decide (p0 = (20 : Int))))))
def d_syntax_args_j0 (p0 : Int) (v1 : Bool) : (Int × Bool) :=
  (bif v1 then ((0 : Int), false) else (bif (decide ((6 : Int) ≤ p0)) then (d_syntax_args_j1 p0 (decide (p0 ≤ (18 : Int)))) else (d_syntax_args_j1 p0 false)))
def d_syntax_args (p0 : Int) : (Int × Bool) :=
  (bif (decide ((1 : Int) ≤ p0)) then (d_syntax_args_j0 p0 (decide (p0 ≤ (5 : Int)))) else (d_syntax_args_j0 p0 false))
set_option maxRecDepth 100000 in
set_option maxHeartbeats 4000000 in
theorem c_syntax_args (p0 : Int) {r : (Int × Bool)} (hr : d_syntax_args p0 = r) {K : PV → List Content → Prop} (h : K (.tup [(.d (.int .i64 r.1)), (.d (.bool r.2))]) st) : ACalls PR n_syntax_args [(.d (.int .i64 p0))] st K := by
  refine ACalls.of F_syntax_args (Nat.le_of_ble_eq_true rfl) fun hwf => ?_
  rw [args0_1]
  refine entry_nil ?_
  unfold x_syntax_args
  rw [d_syntax_args] at hr
  refine x_seq ?_
  refine x_region ?_
  unfold x_syntax_args_r0
  refine o_move e_c ?_
  refine o_move e_c ?_
  refine run_nil ?_
  refine k_then ?_
  refine x_seq ?_
  refine x_block ?_
  refine x_join (fun f st' => ∃ (v1 : Bool), d_syntax_args_j0 p0 v1 = r ∧ f 0 = (.d (.int .i64 p0)) ∧ f 4 = (.d (.bool v1)) ∧ st' = st ++ []) ?_ ?_
  · refine x_region ?_
    unfold x_syntax_args_r1
    refine run_app ?_
    unfold x_syntax_args_r1s0
    refine o_move (e_t (e_m2 rfl e_hit)) ?_
    refine o_bin (e_t e_hit) e_c (b_geqL ?_)
    refine o_move (e_t e_hit) ?_
    refine g_splitL e_hit hr (fun hr => ?_) (fun hr => ?_)
    rotate_left
    · refine g_skip e_hit ?_
      refine g_skip (e_miss rfl e_hit) ?_
      refine o_pick_f (e_t (e_m2 rfl e_hit)) e_c ?_
      refine run_nil ?_
      unfold x_syntax_args_r1s1
      refine o_move (e_t e_hit) ?_
      refine run_nil ?_
      refine k_then ?_
      exact ⟨false, hr, (e_m4 rfl (e_m4 rfl (e_m2 rfl e_hit))), e_hit, rfl⟩
    refine g_run e_hit ?_
    refine o_move (e_t (e_m4 rfl (e_m2 rfl e_hit))) ?_
    refine g_run (e_miss rfl e_hit) ?_
    refine o_bin (e_t e_hit) e_c (b_leq ?_)
    refine o_pick_t (e_t (e_m2 rfl e_hit)) (e_t e_hit) ?_
    refine run_nil ?_
    unfold x_syntax_args_r1s1
    refine o_move (e_t e_hit) ?_
    refine run_nil ?_
    refine k_then ?_
    exact ⟨(decide (p0 ≤ (5 : Int))), hr, (e_m4 rfl (e_m4 rfl (e_m2 rfl e_hit))), e_hit, rfl⟩
  rintro f st' ⟨v1, hr, h0, h4, rfl⟩
  rw [d_syntax_args_j0] at hr
  refine x_condL (e_t h4) hr (fun hr => ?_) (fun hr => ?_)
  · refine x_seq ?_
    refine x_region ?_
    unfold x_syntax_args_r2
    refine o_move e_c ?_
    refine o_move e_c ?_
    refine run_nil ?_
    refine k_then ?_
    refine x_ret ?_
    refine k_inR ?_
    refine k_thenR ?_
    subst hr
    exact retK (r_tmp (e_miss rfl e_hit) (r_tmp e_hit r_nil)) (p_list (f1_cons f1_d (f1_cons f1_d f1_nil)) rfl) (cutS_wf hwf) h
  refine x_join (fun f st' => ∃ (v2 : Bool), d_syntax_args_j1 p0 v2 = r ∧ f 0 = (.d (.int .i64 p0)) ∧ f 11 = (.d (.bool v2)) ∧ st' = st ++ []) ?_ ?_
  · refine x_region ?_
    unfold x_syntax_args_r3
    refine run_app ?_
    unfold x_syntax_args_r3s0
    refine o_move (e_t h0) ?_
    refine o_bin (e_t e_hit) e_c (b_geqL ?_)
    refine o_move (e_t e_hit) ?_
    refine g_splitL e_hit hr (fun hr => ?_) (fun hr => ?_)
    rotate_left
    · refine g_skip e_hit ?_
      refine g_skip (e_miss rfl e_hit) ?_
      refine o_pick_f (e_t (e_m2 rfl e_hit)) e_c ?_
      refine run_nil ?_
      unfold x_syntax_args_r3s1
      refine o_move (e_t e_hit) ?_
      refine run_nil ?_
      refine k_then ?_
      exact ⟨false, hr, (e_m4 rfl (e_m4 rfl h0)), e_hit, rfl⟩
    refine g_run e_hit ?_
    refine o_move (e_t (e_m4 rfl h0)) ?_
    refine g_run (e_miss rfl e_hit) ?_
    refine o_bin (e_t e_hit) e_c (b_leq ?_)
    refine o_pick_t (e_t (e_m2 rfl e_hit)) (e_t e_hit) ?_
    refine run_nil ?_
    unfold x_syntax_args_r3s1
    refine o_move (e_t e_hit) ?_
    refine run_nil ?_
    refine k_then ?_
    exact ⟨(decide (p0 ≤ (18 : Int))), hr, (e_m4 rfl (e_m4 rfl h0)), e_hit, rfl⟩
  rintro f st' ⟨v2, hr, h0, h11, rfl⟩
  rw [d_syntax_args_j1] at hr
  refine x_condL (e_t h11) hr (fun hr => ?_) (fun hr => ?_)
  · refine x_seq ?_
    refine x_region ?_
    unfold x_syntax_args_r4
    refine o_move e_c ?_
    refine o_move e_c ?_
    refine run_nil ?_
    refine k_then ?_
    refine x_ret ?_
    refine k_inR ?_
    refine k_thenR ?_
    subst hr
    exact retK (r_tmp (e_miss rfl e_hit) (r_tmp e_hit r_nil)) (p_list (f1_cons f1_d (f1_cons f1_d f1_nil)) rfl) (cutS_wf hwf) h
  refine x_join (fun f st' => ∃ (v3 : Bool), d_syntax_args_j2 p0 v3 = r ∧ f 0 = (.d (.int .i64 p0)) ∧ f 18 = (.d (.bool v3)) ∧ st' = st ++ []) ?_ ?_
  · refine x_region ?_
    unfold x_syntax_args_r5
    refine run_app ?_
    unfold x_syntax_args_r5s0
    refine o_move (e_t h0) ?_
    refine o_bin (e_t e_hit) e_c (b_eql ?_)
    refine o_move (e_t e_hit) ?_
    refine g_splitL e_hit hr (fun hr => ?_) (fun hr => ?_)
    · refine g_skip e_hit ?_
      refine g_skip (e_miss rfl e_hit) ?_
      refine o_pick_t (e_t (e_m2 rfl e_hit)) e_c ?_
      refine run_nil ?_
      unfold x_syntax_args_r5s1
      refine o_move (e_t e_hit) ?_
      refine run_nil ?_
      refine k_then ?_
      exact ⟨true, hr, (e_m4 rfl (e_m4 rfl h0)), e_hit, rfl⟩
    refine g_run e_hit ?_
    refine o_move (e_t (e_m4 rfl h0)) ?_
    refine g_run (e_miss rfl e_hit) ?_
    refine o_bin (e_t e_hit) e_c (b_eql ?_)
    refine o_pick_f (e_t (e_m2 rfl e_hit)) (e_t e_hit) ?_
    refine run_nil ?_
    unfold x_syntax_args_r5s1
    refine o_move (e_t e_hit) ?_
    refine run_nil ?_
    refine k_then ?_
    exact ⟨(decide (p0 = (20 : Int))), hr, (e_m4 rfl (e_m4 rfl h0)), e_hit, rfl⟩
  rintro f st' ⟨v3, hr, h0, h18, rfl⟩
  rw [d_syntax_args_j2] at hr
  refine x_condL (e_t h18) hr (fun hr => ?_) (fun hr => ?_)
  · refine x_seq ?_
    refine x_region ?_
    unfold x_syntax_args_r6
    refine o_move e_c ?_
    refine o_move e_c ?_
    refine run_nil ?_
    refine k_then ?_
    refine x_ret ?_
    refine k_inR ?_
    refine k_thenR ?_
    subst hr
    exact retK (r_tmp (e_miss rfl e_hit) (r_tmp e_hit r_nil)) (p_list (f1_cons f1_d (f1_cons f1_d f1_nil)) rfl) (cutS_wf hwf) h
  refine x_seq ?_
  refine x_region ?_
  unfold x_syntax_args_r7
  refine o_move (e_t h0) ?_
  refine o_bin (e_t e_hit) e_c (b_eql ?_)
  refine o_move (e_t e_hit) ?_
  refine run_nil ?_
  refine k_then ?_
  refine x_condL (e_t e_hit) hr (fun hr => ?_) (fun hr => ?_)
  · refine x_seq ?_
    refine x_region ?_
    unfold x_syntax_args_r8
    refine o_move e_c ?_
    refine o_move e_c ?_
    refine run_nil ?_
    refine k_then ?_
    refine x_ret ?_
    refine k_inR ?_
    refine k_thenR ?_
    subst hr
    exact retK (r_tmp (e_miss rfl e_hit) (r_tmp e_hit r_nil)) (p_list (f1_cons f1_d (f1_cons f1_d f1_nil)) rfl) (cutS_wf hwf) h
  refine x_seq ?_
  refine x_region ?_
  unfold x_syntax_args_r9
  refine run_app ?_
  unfold x_syntax_args_r9s0
  refine o_move (e_t (e_m2 rfl (e_miss rfl h0))) ?_
  refine o_bin (e_t e_hit) e_c (b_geqL ?_)
  refine o_move (e_t e_hit) ?_
  refine g_splitL e_hit hr (fun hr => ?_) (fun hr => ?_)
  rotate_left
  · refine g_skip e_hit ?_
    refine g_skip (e_miss rfl e_hit) ?_
    refine o_pick_f (e_t (e_m2 rfl e_hit)) e_c ?_
    refine run_nil ?_
    unfold x_syntax_args_r9s1
    refine o_move (e_t e_hit) ?_
    refine run_nil ?_
    refine k_then ?_
    refine x_cond_f (e_t e_hit) ?_
    refine x_skip ?_
    refine k_inN ?_
    refine k_then ?_
    refine x_seq ?_
    refine x_region ?_
    unfold x_syntax_args_r11
    refine o_move e_c ?_
    refine o_move e_c ?_
    refine run_nil ?_
    refine k_then ?_
    refine x_ret ?_
    subst hr
    exact retK (r_tmp (e_miss rfl e_hit) (r_tmp e_hit r_nil)) (p_list (f1_cons f1_d (f1_cons f1_d f1_nil)) rfl) (cutS_wf hwf) h
  refine g_run e_hit ?_
  refine o_move (e_t (e_m4 rfl (e_m2 rfl (e_miss rfl h0)))) ?_
  refine g_run (e_miss rfl e_hit) ?_
  refine o_bin (e_t e_hit) e_c (b_leq ?_)
  refine o_pick_t (e_t (e_m2 rfl e_hit)) (e_t e_hit) ?_
  refine run_nil ?_
  unfold x_syntax_args_r9s1
  refine o_move (e_t e_hit) ?_
  refine run_nil ?_
  refine k_then ?_
  refine x_condL (e_t e_hit) hr (fun hr => ?_) (fun hr => ?_)
  · refine x_seq ?_
    refine x_region ?_
    unfold x_syntax_args_r10
    refine o_move e_c ?_
    refine o_move e_c ?_
    refine run_nil ?_
    refine k_then ?_
    refine x_ret ?_
    refine k_inR ?_
    refine k_thenR ?_
    subst hr
    exact retK (r_tmp (e_miss rfl e_hit) (r_tmp e_hit r_nil)) (p_list (f1_cons f1_d (f1_cons f1_d f1_nil)) rfl) (cutS_wf hwf) h
  refine x_skip ?_
  refine k_inN ?_
  refine k_then ?_
  refine x_seq ?_
  refine x_region ?_
  unfold x_syntax_args_r11
  refine o_move e_c ?_
  refine o_move e_c ?_
  refine run_nil ?_
  refine k_then ?_
  refine x_ret ?_
  subst hr
  exact retK (r_tmp (e_miss rfl e_hit) (r_tmp e_hit r_nil)) (p_list (f1_cons f1_d (f1_cons f1_d f1_nil)) rfl) (cutS_wf hwf) h
end Go.Ax
