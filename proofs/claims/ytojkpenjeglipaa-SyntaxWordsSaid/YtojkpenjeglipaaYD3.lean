import Derived.Test.YtojkpenjeglipaaYT
import Derived.Test.YtojkpenjeglipaaVX
import Derived.Test.YtojkpenjeglipaaPrim
set_option linter.unusedVariables false
set_option linter.unusedSimpArgs false
namespace Go.Ax
attribute [local irreducible] xexec xops xpre xrun xacc thenX inBlockX RetK XLoop upd ev u0 frzA frz asRows binK mmD bnd okAll fillP fillOk rowsOf toDs frz1 pack cutV tokC tokArgs
variable {st : List Content}

def d_slices_IndexFunc_api_Stmt_api_Stmt_l0b (p0 : (List T_api_Stmt)) (fn1 : T_api_Stmt → Option Bool) (rec_l_0 : Int → Option Int) (v1 : Int) : Option Int :=
  (bif (decide (v1 < (p0.length : Int))) then ((idxL p0 v1).bind fun v2 => ((fn1 v2).bind fun v3 => (bif v3 then some v1 else rec_l_0 (IntKind.wrap .i64 (v1 + (1 : Int)))))) else some (-1))
def d_slices_IndexFunc_api_Stmt_api_Stmt_l0 (p0 : (List T_api_Stmt)) (fn1 : T_api_Stmt → Option Bool) : Nat → Int → Option Int
  | 0, _ => none
  | m + 1, v1 => d_slices_IndexFunc_api_Stmt_api_Stmt_l0b p0 fn1 (d_slices_IndexFunc_api_Stmt_api_Stmt_l0 p0 fn1 m) v1
def d_slices_IndexFunc_api_Stmt_api_Stmt (n : Nat) (p0 : (List T_api_Stmt)) (fn1 : T_api_Stmt → Option Bool) : Option Int :=
  (d_slices_IndexFunc_api_Stmt_api_Stmt_l0 p0 fn1 n (0 : Int))
set_option maxRecDepth 100000 in
set_option maxHeartbeats 4000000 in
theorem c_slices_IndexFunc_api_Stmt_api_Stmt (n : Nat) (p0 : (List T_api_Stmt)) (fn1 : T_api_Stmt → Option Bool) {g_fn1 : FuncId} {p_fn1 q_fn1 : List PV} (H_fn1 : ∀ (a0 : T_api_Stmt) {r : Bool}, fn1 a0 = some r → ∀ {st : List Content} {K : PV → List Content → Prop}, K (.d (.bool r)) st → ACalls PR g_fn1 (p_fn1 ++ [(.agg [(.d (.int .i64 a0.Op)), (.d (.str a0.Name)), (.d (.str a0.Src)), (.d (.int .i64 a0.N)), (.d (.sl (List.map rS a0.Cols))), (.d (.sl (List.map T_api_Expr.row a0.Exprs))), (.d (.sl (List.map T_api_Stmt.row a0.Body))), (.d (.sl (List.map T_api_Stmt.row a0.Else)))])] ++ q_fn1) st K) (B_fn1 : ∀ n, (belowB.belowL n p_fn1 && belowB.belowL n q_fn1) = true) {r : Int} (hr : d_slices_IndexFunc_api_Stmt_api_Stmt n p0 fn1 = some r) {K : PV → List Content → Prop} (h : K (.d (.int .i64 r)) st) : ACalls PR n_slices_IndexFunc_api_Stmt_api_Stmt [(.d (.sl (List.map T_api_Stmt.row p0))), (.fn g_fn1 p_fn1 q_fn1)] st K := by
  refine ACalls.of F_slices_IndexFunc_api_Stmt_api_Stmt (Nat.le_of_ble_eq_true rfl) fun hwf => ?_
  rw [args0_2]
  refine entry_nil ?_
  unfold x_slices_IndexFunc_api_Stmt_api_Stmt
  rw [d_slices_IndexFunc_api_Stmt_api_Stmt] at hr
  refine x_seq ?_
  refine x_region ?_
  unfold x_slices_IndexFunc_api_Stmt_api_Stmt_r0
  refine o_move e_c ?_
  refine run_nil ?_
  refine k_then ?_
  refine x_seq ?_
  refine x_seq ?_
  refine x_region ?_
  unfold x_slices_IndexFunc_api_Stmt_api_Stmt_r1
  refine o_move (e_t (e_miss rfl e_hit)) ?_
  refine o_lenL (row := T_api_Stmt.row) (ar_of (e_t e_hit) ar_d) ?_
  refine o_move e_c ?_
  refine run_nil ?_
  refine k_then ?_
  refine x_block ?_
  refine x_loopL (fun m f st' => ∃ (v1 : Int), d_slices_IndexFunc_api_Stmt_api_Stmt_l0 p0 fn1 m v1 = some r ∧ f 0 = (.d (.sl (List.map T_api_Stmt.row p0))) ∧ f 1 = (.fn g_fn1 p_fn1 q_fn1) ∧ f 7 = (.d (.int .i64 (p0.length : Int))) ∧ f 8 = (.d (.int .i64 v1)) ∧ st' = st ++ []) n (Ghost.refl _) ⟨(0 : Int), hr, (e_m4 rfl e_hit), (e_m4 rfl (e_miss rfl e_hit)), (e_miss rfl e_hit), e_hit, rfl⟩ ?_
  rintro m f st' ⟨v1, hr, h0, h1, h7, h8, rfl⟩
  cases m with
  | zero => cases hr
  | succ m_0 =>
    rw [d_slices_IndexFunc_api_Stmt_api_Stmt_l0] at hr
    generalize hrec_0 : d_slices_IndexFunc_api_Stmt_api_Stmt_l0 p0 fn1 m_0 = rec_l_0 at hr
    rw [d_slices_IndexFunc_api_Stmt_api_Stmt_l0b] at hr
    unfold x_slices_IndexFunc_api_Stmt_api_Stmt_l7
    refine x_seq ?_
    refine x_region ?_
    unfold x_slices_IndexFunc_api_Stmt_api_Stmt_r2
    refine o_bin (e_t h8) (e_t h7) (b_lss ?_)
    refine run_nil ?_
    refine k_then ?_
    refine x_seq ?_
    refine x_condL (e_t e_hit) hr (fun hr => ?_) (fun hr => ?_)
    rotate_left
    · refine x_exit ?_
      refine k_thenE ?_
      refine k_thenE ?_
      refine k_inE ?_
      refine k_then ?_
      refine x_seq ?_
      refine x_region ?_
      unfold x_slices_IndexFunc_api_Stmt_api_Stmt_r8
      refine o_move e_c ?_
      refine run_nil ?_
      refine k_then ?_
      refine x_ret ?_
      cases hr
      exact retK (r_tmp e_hit r_nil) (p_one fz_d v_d) (cutS_wf hwf) h
    refine x_skip ?_
    refine k_then ?_
    refine x_seq ?_
    refine x_block ?_
    refine x_seq ?_
    refine x_region ?_
    unfold x_slices_IndexFunc_api_Stmt_api_Stmt_r3
    refine o_move (e_t (e_miss rfl h8)) ?_
    refine o_move (e_t e_hit) ?_
    refine run_nil ?_
    refine k_then ?_
    refine x_seq ?_
    refine x_region ?_
    unfold x_slices_IndexFunc_api_Stmt_api_Stmt_r4
    refine o_move (e_t (e_m2 rfl (e_miss rfl h1))) ?_
    refine o_move (e_t (e_m4 rfl h0)) ?_
    refine o_move (e_t (e_m2 rfl e_hit)) ?_
    refine o_idxL (row := T_api_Stmt.row) (ar_of (e_t (e_miss rfl e_hit)) ar_d) (e_t e_hit) hr T_api_Stmt.row_eq (fun _ => rfl) (fun v2 hr => ?_)
    refine o_loadDA (e_t e_hit) (Nat.le_of_ble_eq_true rfl) (by exact rfl) ?_
    obtain ⟨v3, hc_v3, hr⟩ := bind_some hr
    refine o_dyn (e_t (e_m4 rfl e_hit)) (a_cons (e_t e_hit) (fz_agg (f_cons f_d (f_cons f_d (f_cons f_d (f_cons f_d (f_cons f_d (f_cons f_d (f_cons f_d (f_cons f_d f_nil))))))))) a_nil) rfl ?_
    refine H_fn1 v2 hc_v3 ?_
    refine run_nil ?_
    refine k_then ?_
    refine x_condL (e_t e_hit) hr (fun hr => ?_) (fun hr => ?_)
    rotate_left
    · refine x_skip ?_
      refine k_inN ?_
      refine k_then ?_
      refine x_region ?_
      unfold x_slices_IndexFunc_api_Stmt_api_Stmt_r6
      refine o_bin (e_t (e_m4 rfl (e_m4 rfl (e_miss rfl h8)))) e_c (b_add ?_)
      refine o_move (e_t e_hit) ?_
      refine run_nil ?_
      refine k_then ?_
      exact ⟨m_0, _, Nat.lt_succ_self m_0, Ghost.refl _, (IntKind.wrap .i64 (v1 + (1 : Int))), (by rw [hrec_0]; exact hr), (e_m4 rfl (e_m4 rfl (e_m2 rfl (e_miss rfl h0)))), (e_m4 rfl (e_m4 rfl (e_m2 rfl (e_miss rfl h1)))), (e_m4 rfl (e_m4 rfl (e_m2 rfl (e_miss rfl h7)))), e_hit, rfl⟩
    refine x_seq ?_
    refine x_region ?_
    unfold x_slices_IndexFunc_api_Stmt_api_Stmt_r5
    refine o_move (e_t (e_m4 rfl (e_m2 rfl e_hit))) ?_
    refine o_move (e_t e_hit) ?_
    refine run_nil ?_
    refine k_then ?_
    refine x_ret ?_
    refine k_inR ?_
    refine k_thenR ?_
    refine k_thenR ?_
    refine k_inR ?_
    refine k_thenR ?_
    cases hr
    exact retK (r_tmp e_hit r_nil) (p_one fz_d v_d) (cutS_wf hwf) h

def d_slices_ContainsFunc_api_Stmt_api_Stmt (n : Nat) (p0 : (List T_api_Stmt)) (fn1 : T_api_Stmt → Option Bool) : Option Bool :=
  ((d_slices_IndexFunc_api_Stmt_api_Stmt n p0 fn1).bind fun v1 => some (decide ((0 : Int) ≤ v1)))
set_option maxRecDepth 100000 in
set_option maxHeartbeats 4000000 in
theorem c_slices_ContainsFunc_api_Stmt_api_Stmt (n : Nat) (p0 : (List T_api_Stmt)) (fn1 : T_api_Stmt → Option Bool) {g_fn1 : FuncId} {p_fn1 q_fn1 : List PV} (H_fn1 : ∀ (a0 : T_api_Stmt) {r : Bool}, fn1 a0 = some r → ∀ {st : List Content} {K : PV → List Content → Prop}, K (.d (.bool r)) st → ACalls PR g_fn1 (p_fn1 ++ [(.agg [(.d (.int .i64 a0.Op)), (.d (.str a0.Name)), (.d (.str a0.Src)), (.d (.int .i64 a0.N)), (.d (.sl (List.map rS a0.Cols))), (.d (.sl (List.map T_api_Expr.row a0.Exprs))), (.d (.sl (List.map T_api_Stmt.row a0.Body))), (.d (.sl (List.map T_api_Stmt.row a0.Else)))])] ++ q_fn1) st K) (B_fn1 : ∀ n, (belowB.belowL n p_fn1 && belowB.belowL n q_fn1) = true) {r : Bool} (hr : d_slices_ContainsFunc_api_Stmt_api_Stmt n p0 fn1 = some r) {K : PV → List Content → Prop} (h : K (.d (.bool r)) st) : ACalls PR n_slices_ContainsFunc_api_Stmt_api_Stmt [(.d (.sl (List.map T_api_Stmt.row p0))), (.fn g_fn1 p_fn1 q_fn1)] st K := by
  refine ACalls.of F_slices_ContainsFunc_api_Stmt_api_Stmt (Nat.le_of_ble_eq_true rfl) fun hwf => ?_
  rw [args0_2]
  refine entry_nil ?_
  unfold x_slices_ContainsFunc_api_Stmt_api_Stmt
  rw [d_slices_ContainsFunc_api_Stmt_api_Stmt] at hr
  refine x_seq ?_
  refine x_region ?_
  unfold x_slices_ContainsFunc_api_Stmt_api_Stmt_r0
  refine o_move e_c ?_
  refine run_nil ?_
  refine k_then ?_
  refine x_seq ?_
  refine x_region ?_
  unfold x_slices_ContainsFunc_api_Stmt_api_Stmt_r1
  refine o_move (e_t (e_miss rfl e_hit)) ?_
  refine o_move (e_t (e_m2 rfl (e_miss rfl e_hit))) ?_
  obtain ⟨v1, hc_v1, hr⟩ := bind_some hr
  refine o_call (a_cons (e_t (e_miss rfl e_hit)) fz_d (a_cons (e_t e_hit) fz_fn a_nil)) ?_
  refine c_slices_IndexFunc_api_Stmt_api_Stmt n p0 fn1 H_fn1 B_fn1 hc_v1 ?_
  refine o_bin (e_t e_hit) e_c (b_geqL ?_)
  refine o_move (e_t e_hit) ?_
  refine run_nil ?_
  refine k_then ?_
  refine x_ret ?_
  cases hr
  exact retK (r_tmp e_hit r_nil) (p_one fz_d v_d) (cutS_wf hwf) h

def d_syntax_has (p0 : Bool) (p1 : ByteArray) : (List ByteArray) :=
  (bif (!p0) then [] else [p1])
set_option maxRecDepth 100000 in
set_option maxHeartbeats 4000000 in
theorem c_syntax_has (p0 : Bool) (p1 : ByteArray) {r : (List ByteArray)} (hr : d_syntax_has p0 p1 = r) {K : PV → List Content → Prop} (h : K (.d (.sl (List.map rS r))) st) : ACalls PR n_syntax_has [(.d (.bool p0)), (.d (.str p1))] st K := by
  refine ACalls.of F_syntax_has (Nat.le_of_ble_eq_true rfl) fun hwf => ?_
  rw [args0_2]
  refine entry_nil ?_
  unfold x_syntax_has
  rw [d_syntax_has] at hr
  refine x_seq ?_
  refine x_region ?_
  unfold x_syntax_has_r0
  refine o_move e_c ?_
  refine run_nil ?_
  refine k_then ?_
  refine x_seq ?_
  refine x_seq ?_
  refine x_region ?_
  unfold x_syntax_has_r1
  refine o_move (e_t (e_miss rfl e_hit)) ?_
  refine o_not (e_t e_hit) ?_
  refine run_nil ?_
  refine k_then ?_
  refine x_condL (e_t e_hit) hr (fun hr => ?_) (fun hr => ?_)
  · refine x_seq ?_
    refine x_region ?_
    unfold x_syntax_has_r2
    refine o_move e_c ?_
    refine run_nil ?_
    refine k_then ?_
    refine x_ret ?_
    refine k_thenR ?_
    subst hr
    exact retK (r_tmp e_hit r_nil) (p_one fz_ex v_d) (cutS_wf hwf) h
  refine x_skip ?_
  refine k_then ?_
  refine x_seq ?_
  refine x_region ?_
  unfold x_syntax_has_r3
  refine o_move (e_t (e_m4 rfl e_hit)) ?_
  refine o_slice (rows := List.map rS [p1]) ((rw_cons (e_t e_hit) pc_d (td_cons f_d td_nil) rfl rw_nil)) ?_
  refine o_move (e_t e_hit) ?_
  refine run_nil ?_
  refine k_then ?_
  refine x_ret ?_
  subst hr
  exact retK (r_tmp e_hit r_nil) (p_one fz_ex v_d) (cutS_wf hwf) h
end Go.Ax
