import Derived.Test.YtojkpenjeglipaaYT
import Derived.Test.YtojkpenjeglipaaVX
import Derived.Test.YtojkpenjeglipaaPrim
import Derived.Test.YtojkpenjeglipaaYD5
set_option linter.unusedVariables false
set_option linter.unusedSimpArgs false
namespace Go.Ax
attribute [local irreducible] xexec xops xpre xrun xacc thenX inBlockX RetK XLoop upd ev u0 frzA frz asRows binK mmD bnd okAll fillP fillOk rowsOf toDs frz1 pack cutV tokC tokArgs
variable {st : List Content}

def d_syntax_uses_expr_l0b (p1 : (List ByteArray)) (p2 : (List ByteArray)) (p3 : T_api_Expr) (s_syntax_uses_expr : (List ByteArray) → (List ByteArray) → (List ByteArray) → T_api_Expr → Option (List ByteArray)) (rec_l_0 : (List ByteArray) → Int → Option (List ByteArray)) (v6 : (List ByteArray)) (v7 : Int) : Option (List ByteArray) :=
  (bif (decide (v7 < (p3.Args.length : Int))) then ((idxL p3.Args v7).bind fun v8 => ((s_syntax_uses_expr v6 p1 p2 v8).bind fun v9 => rec_l_0 v9 (IntKind.wrap .i64 (v7 + (1 : Int))))) else some v6)
def d_syntax_uses_expr_l0 (p1 : (List ByteArray)) (p2 : (List ByteArray)) (p3 : T_api_Expr) (s_syntax_uses_expr : (List ByteArray) → (List ByteArray) → (List ByteArray) → T_api_Expr → Option (List ByteArray)) : Nat → (List ByteArray) → Int → Option (List ByteArray)
  | 0, _, _ => none
  | m + 1, v6, v7 => d_syntax_uses_expr_l0b p1 p2 p3 s_syntax_uses_expr (d_syntax_uses_expr_l0 p1 p2 p3 s_syntax_uses_expr m) v6 v7
def d_syntax_uses_expr_j0 (p1 : (List ByteArray)) (p2 : (List ByteArray)) (p3 : T_api_Expr) (s_syntax_uses_expr : (List ByteArray) → (List ByteArray) → (List ByteArray) → T_api_Expr → Option (List ByteArray)) (n : Nat) (v5 : (List ByteArray)) : Option (List ByteArray) :=
  (d_syntax_uses_expr_l0 p1 p2 p3 s_syntax_uses_expr n v5 (0 : Int))
def d_syntax_uses_expr_b (s_syntax_uses_expr : (List ByteArray) → (List ByteArray) → (List ByteArray) → T_api_Expr → Option (List ByteArray)) (n : Nat) (p0 : (List ByteArray)) (p1 : (List ByteArray)) (p2 : (List ByteArray)) (p3 : T_api_Expr) : Option (List ByteArray) :=
  (bif (d_syntax_args p3.Op).2 then ((putM p0 p3.Src).bind fun v4 => (d_syntax_uses_expr_j0 p1 p2 p3 s_syntax_uses_expr n v4)) else (d_syntax_uses_expr_j0 p1 p2 p3 s_syntax_uses_expr n p0))
set_option maxRecDepth 100000 in
set_option maxHeartbeats 4000000 in
theorem cb_syntax_uses_expr (s_syntax_uses_expr : (List ByteArray) → (List ByteArray) → (List ByteArray) → T_api_Expr → Option (List ByteArray)) (n : Nat) (p0 : (List ByteArray)) (p1 : (List ByteArray)) (p2 : (List ByteArray)) (p3 : T_api_Expr) (H_s_syntax_uses_expr : ∀ (p0 : (List ByteArray)) (p1 : (List ByteArray)) (p2 : (List ByteArray)) (p3 : T_api_Expr) {r : (List ByteArray)}, s_syntax_uses_expr p0 p1 p2 p3 = some r → ∀ {st : List Content} {x0 : Nat} {x1 : Nat} {x2 : Nat} (hx_x0 : st[x0]? = some (.map ty_string ty_bool p0)) (hx_x1 : st[x1]? = some (.map ty_string ty_bool p1)) (hx_x2 : st[x2]? = some (.map ty_string ty_bool p2)) (hne_x0_x1 : (x0 == x1) = false) (hne_x0_x2 : (x0 == x2) = false) {st' : List Content} (hst : (List.set st x0 (.map ty_string ty_bool r)) = st') {K : PV → List Content → Prop} (h : K (.tup []) st'), ACalls PR n_syntax_uses_expr [(.agg [(.map x0), (.map x1), (.map x2)]), (.agg [(.d (.int .i64 p3.Op)), (.d (.int .i64 p3.N)), (.d (.str p3.S)), (.d (.str p3.Name)), (.d (.str p3.Src)), (.d (.sl (List.map T_api_Expr.row p3.Args)))])] st K) {r : (List ByteArray)} (hr : d_syntax_uses_expr_b s_syntax_uses_expr n p0 p1 p2 p3 = some r) {x0 : Nat} {x1 : Nat} {x2 : Nat} (hx_x0 : st[x0]? = some (.map ty_string ty_bool p0)) (hx_x1 : st[x1]? = some (.map ty_string ty_bool p1)) (hx_x2 : st[x2]? = some (.map ty_string ty_bool p2)) (hne_x0_x1 : (x0 == x1) = false) (hne_x0_x2 : (x0 == x2) = false) {st' : List Content} (hst : (List.set st x0 (.map ty_string ty_bool r)) = st') {K : PV → List Content → Prop} (h : K (.tup []) st') : ACalls PR n_syntax_uses_expr [(.agg [(.map x0), (.map x1), (.map x2)]), (.agg [(.d (.int .i64 p3.Op)), (.d (.int .i64 p3.N)), (.d (.str p3.S)), (.d (.str p3.Name)), (.d (.str p3.Src)), (.d (.sl (List.map T_api_Expr.row p3.Args)))])] st K := by
  subst hst
  refine ACalls.of F_syntax_uses_expr (Nat.le_of_ble_eq_true rfl) fun hwf => ?_
  rw [args0_2]
  refine entry_nil ?_
  unfold x_syntax_uses_expr
  rw [d_syntax_uses_expr_b] at hr
  refine x_seq ?_
  refine x_region ?_
  unfold x_syntax_uses_expr_r0
  refine o_box (k := 0) rfl rfl (e_t e_hit) pc_agg (by exact rfl) ?_
  refine o_box (k := 1) rfl rfl (e_t (e_m2 rfl e_hit)) pc_agg (by exact rfl) ?_
  refine run_nil ?_
  refine k_then ?_
  refine x_join (fun f st' => ∃ (v5 : (List ByteArray)), d_syntax_uses_expr_j0 p1 p2 p3 s_syntax_uses_expr n v5 = some r ∧ f 2 = (.ptr (st.length + 0) 0) ∧ f 3 = (.ptr (st.length + 1) 0) ∧ st' = (List.set st x0 (.map ty_string ty_bool v5)) ++ [(.box [(.map x0), (.map x1), (.map x2)]), (.box [(.d (.int .i64 p3.Op)), (.d (.int .i64 p3.N)), (.d (.str p3.S)), (.d (.str p3.Name)), (.d (.str p3.Src)), (.d (.sl (List.map T_api_Expr.row p3.Args)))])]) ?_ ?_
  · refine x_seq ?_
    refine x_region ?_
    unfold x_syntax_uses_expr_r1
    refine o_fa (e_t e_hit) (by exact rfl) ?_
    refine o_load (e_t e_hit) ((g_ext rfl 1).trans rfl) (by exact rfl) ?_
    refine o_call (a_cons (e_t e_hit) fz_d a_nil) ?_
    refine c_syntax_args p3.Op rfl ?_
    refine o_move (e_t e_hit) ?_
    refine o_ext (e_t e_hit) (by exact rfl) ?_
    refine o_ext (e_t (e_miss rfl e_hit)) (by exact rfl) ?_
    refine o_move (e_t (e_miss rfl e_hit)) ?_
    refine o_move (e_t (e_miss rfl e_hit)) ?_
    refine run_nil ?_
    refine k_then ?_
    refine x_seq ?_
    refine x_region ?_
    unfold x_syntax_uses_expr_r2
    refine o_move (e_t e_hit) ?_
    refine run_nil ?_
    refine k_then ?_
    refine x_condL (e_t e_hit) hr (fun hr => ?_) (fun hr => ?_)
    rotate_left
    · refine x_skip ?_
      refine k_then ?_
      exact ⟨p0, hr, (e_m4 rfl (e_m4 rfl (e_m2 rfl e_hit))), (e_m4 rfl (e_m4 rfl (e_miss rfl e_hit))), (congrArg (· ++ _) ((set_self hx_x0).symm.trans rfl))⟩
    refine x_region ?_
    unfold x_syntax_uses_expr_r3
    refine o_fa (e_t (e_m4 rfl (e_m4 rfl (e_m2 rfl e_hit)))) (by exact rfl) ?_
    refine o_load (e_t e_hit) ((g_ext rfl 0).trans rfl) (by exact rfl) ?_
    refine o_fa (e_t (e_m4 rfl (e_m4 rfl (e_m2 rfl (e_miss rfl e_hit))))) (by exact rfl) ?_
    refine o_load (e_t e_hit) ((g_ext rfl 1).trans rfl) (by exact rfl) ?_
    refine o_mapSetL (e_t (e_m2 rfl e_hit)) (e_t e_hit) e_c (g_old hx_x0) (fun _ => ((s_old hx_x0).trans (congrArg (· ++ _) rfl))) hr (fun v4 hr => ?_)
    refine run_nil ?_
    refine k_then ?_
    exact ⟨v4, hr, (e_m4 rfl (e_m4 rfl (e_m4 rfl (e_m2 rfl e_hit)))), (e_m4 rfl (e_m4 rfl (e_m4 rfl (e_miss rfl e_hit)))), rfl⟩
  rintro f st' ⟨v5, hr, h2, h3, rfl⟩
  rw [d_syntax_uses_expr_j0] at hr
  refine x_seq ?_
  refine x_region ?_
  unfold x_syntax_uses_expr_r4
  refine o_fa (e_t h3) (by exact rfl) ?_
  refine o_load (e_t e_hit) ((g_ext (len_set rfl) 1).trans rfl) (by exact rfl) ?_
  refine o_lenL (row := T_api_Expr.row) (ar_of (e_t e_hit) ar_d) ?_
  refine o_move e_c ?_
  refine run_nil ?_
  refine k_then ?_
  refine x_block ?_
  refine x_loopL (fun m f st' => ∃ (v6 : (List ByteArray)), ∃ (v7 : Int), d_syntax_uses_expr_l0 p1 p2 p3 s_syntax_uses_expr m v6 v7 = some r ∧ f 2 = (.ptr (st.length + 0) 0) ∧ f 20 = (.d (.sl (List.map T_api_Expr.row p3.Args))) ∧ f 21 = (.d (.int .i64 (p3.Args.length : Int))) ∧ f 22 = (.d (.int .i64 v7)) ∧ st' = (List.set st x0 (.map ty_string ty_bool v6)) ++ [(.box [(.map x0), (.map x1), (.map x2)]), (.box [(.d (.int .i64 p3.Op)), (.d (.int .i64 p3.N)), (.d (.str p3.S)), (.d (.str p3.Name)), (.d (.str p3.Src)), (.d (.sl (List.map T_api_Expr.row p3.Args)))])]) n (Ghost.refl _) ⟨v5, (0 : Int), hr, (e_m4 rfl h2), (e_m2 rfl e_hit), (e_miss rfl e_hit), e_hit, rfl⟩ ?_
  rintro m f st' ⟨v6, v7, hr, h2, h20, h21, h22, rfl⟩
  cases m with
  | zero => cases hr
  | succ m_0 =>
    rw [d_syntax_uses_expr_l0] at hr
    generalize hrec_0 : d_syntax_uses_expr_l0 p1 p2 p3 s_syntax_uses_expr m_0 = rec_l_0 at hr
    rw [d_syntax_uses_expr_l0b] at hr
    unfold x_syntax_uses_expr_l9
    refine x_seq ?_
    refine x_region ?_
    unfold x_syntax_uses_expr_r5
    refine o_bin (e_t h22) (e_t h21) (b_lss ?_)
    refine run_nil ?_
    refine k_then ?_
    refine x_seq ?_
    refine x_condL (e_t e_hit) hr (fun hr => ?_) (fun hr => ?_)
    rotate_left
    · refine x_exit ?_
      refine k_thenE ?_
      refine k_thenE ?_
      refine k_inE ?_
      cases hr
      exact retK_n r_nil p_nil (cutS_of (WF.setMap hwf) (len_set rfl)) h
    refine x_skip ?_
    refine k_then ?_
    refine x_seq ?_
    refine x_block ?_
    refine x_seq ?_
    refine x_region ?_
    unfold x_syntax_uses_expr_r6
    refine o_idxL (row := T_api_Expr.row) (ar_of (e_t (e_miss rfl h20)) ar_d) (e_t (e_miss rfl h22)) hr T_api_Expr.row_eq (fun _ => rfl) (fun v8 hr => ?_)
    refine o_loadDA (e_t e_hit) (Nat.le_of_ble_eq_true rfl) (by exact rfl) ?_
    refine o_alloc (k := 2) (len_set rfl) rfl ?_
    refine o_store (e_t e_hit) ((g_ext (len_set rfl) 2).trans rfl) (e_t (e_miss rfl e_hit)) pc_agg rfl (Nat.le_of_ble_eq_true rfl) (by exact rfl) (cells' := [(.d (.int .i64 v8.Op)), (.d (.int .i64 v8.N)), (.d (.str v8.S)), (.d (.str v8.Name)), (.d (.str v8.Src)), (.d (.sl (List.map T_api_Expr.row v8.Args)))]) (by exact rfl) (s_ext (len_set rfl) _ _) ?_
    refine run_nil ?_
    refine k_then ?_
    refine x_region ?_
    unfold x_syntax_uses_expr_r7
    refine o_loadA (e_t (e_m4 rfl h2)) ((g_ext (len_set rfl) 0).trans rfl) (Nat.le_of_ble_eq_true rfl) (by exact rfl) ?_
    refine o_loadA (e_t (e_miss rfl e_hit)) ((g_ext (len_set rfl) 2).trans rfl) (Nat.le_of_ble_eq_true rfl) (by exact rfl) ?_
    obtain ⟨v9, hc_v9, hr⟩ := bind_some hr
    refine o_call (a_cons (e_t (e_miss rfl e_hit)) (fz_agg (f_cons f_map (f_cons f_map (f_cons f_map f_nil)))) (a_cons (e_t e_hit) (fz_agg (f_cons f_d (f_cons f_d (f_cons f_d (f_cons f_d (f_cons f_d (f_cons f_d f_nil))))))) a_nil)) ?_
    refine H_s_syntax_uses_expr v6 p1 p2 v8 hc_v9 (g_old (get_set_same hx_x0)) (g_old (get_set_ne hx_x1 hne_x0_x1)) (g_old (get_set_ne hx_x2 hne_x0_x2)) hne_x0_x1 hne_x0_x2 ((s_old (get_set_same hx_x0)).trans (congrArg (· ++ _) set_last)) ?_
    refine run_nil ?_
    refine k_inN ?_
    refine k_then ?_
    refine x_region ?_
    unfold x_syntax_uses_expr_r8
    refine o_bin (e_t (e_m4 rfl (e_m2 rfl (e_miss rfl h22)))) e_c (b_add ?_)
    refine o_move (e_t e_hit) ?_
    refine run_nil ?_
    refine k_then ?_
    exact ⟨m_0, _, Nat.lt_succ_self m_0, Ghost.cut _ (st.length + 2) (Nat.le_add_right _ _), v9, (IntKind.wrap .i64 (v7 + (1 : Int))), (by rw [hrec_0]; exact hr), ((congrArg (cutV _) (e_m4 rfl (e_m4 rfl (e_miss rfl h2)))).trans (by simp [cutV, belowB])), ((congrArg (cutV _) (e_m4 rfl (e_m4 rfl (e_miss rfl h20)))).trans (v_d)), ((congrArg (cutV _) (e_m4 rfl (e_m4 rfl (e_miss rfl h21)))).trans (v_d)), ((congrArg (cutV _) e_hit).trans (v_d)), (cut_keep (l0 := [(.box [(.map x0), (.map x1), (.map x2)]), (.box [(.d (.int .i64 p3.Op)), (.d (.int .i64 p3.N)), (.d (.str p3.S)), (.d (.str p3.Name)), (.d (.str p3.Src)), (.d (.sl (List.map T_api_Expr.row p3.Args)))])]) (l1 := _) (WF.setMap hwf) (len_set rfl) rfl (by simp [cutC, cutV, belowB, belowB.belowL, lt_old hx_x0, lt_old hx_x1, lt_old hx_x2]))⟩
def d_syntax_uses_expr : Nat → (List ByteArray) → (List ByteArray) → (List ByteArray) → T_api_Expr → Option (List ByteArray)
  | 0, _, _, _, _ => none
  | n + 1, p0, p1, p2, p3 => d_syntax_uses_expr_b (d_syntax_uses_expr n) n p0 p1 p2 p3
theorem cs_syntax_uses_expr : ∀ n : Nat, (∀ (p0 : (List ByteArray)) (p1 : (List ByteArray)) (p2 : (List ByteArray)) (p3 : T_api_Expr) {r : (List ByteArray)}, d_syntax_uses_expr n p0 p1 p2 p3 = some r → ∀ {st : List Content} {x0 : Nat} {x1 : Nat} {x2 : Nat} (hx_x0 : st[x0]? = some (.map ty_string ty_bool p0)) (hx_x1 : st[x1]? = some (.map ty_string ty_bool p1)) (hx_x2 : st[x2]? = some (.map ty_string ty_bool p2)) (hne_x0_x1 : (x0 == x1) = false) (hne_x0_x2 : (x0 == x2) = false) {st' : List Content} (hst : (List.set st x0 (.map ty_string ty_bool r)) = st') {K : PV → List Content → Prop} (h : K (.tup []) st'), ACalls PR n_syntax_uses_expr [(.agg [(.map x0), (.map x1), (.map x2)]), (.agg [(.d (.int .i64 p3.Op)), (.d (.int .i64 p3.N)), (.d (.str p3.S)), (.d (.str p3.Name)), (.d (.str p3.Src)), (.d (.sl (List.map T_api_Expr.row p3.Args)))])] st K)
  | 0 => fun _ _ _ _ _ hr => (by rw [d_syntax_uses_expr] at hr; cases hr)
  | n + 1 => fun p0 p1 p2 p3 _ hr _ _ _ _ hx_x0 hx_x1 hx_x2 hne_x0_x1 hne_x0_x2 _ hst _ h => cb_syntax_uses_expr (d_syntax_uses_expr n) n p0 p1 p2 p3 (cs_syntax_uses_expr n) (by rw [d_syntax_uses_expr] at hr; exact hr) hx_x0 hx_x1 hx_x2 hne_x0_x1 hne_x0_x2 hst h
theorem c_syntax_uses_expr (n : Nat) (p0 : (List ByteArray)) (p1 : (List ByteArray)) (p2 : (List ByteArray)) (p3 : T_api_Expr) {r : (List ByteArray)} (hr : d_syntax_uses_expr n p0 p1 p2 p3 = some r) {x0 : Nat} {x1 : Nat} {x2 : Nat} (hx_x0 : st[x0]? = some (.map ty_string ty_bool p0)) (hx_x1 : st[x1]? = some (.map ty_string ty_bool p1)) (hx_x2 : st[x2]? = some (.map ty_string ty_bool p2)) (hne_x0_x1 : (x0 == x1) = false) (hne_x0_x2 : (x0 == x2) = false) {st' : List Content} (hst : (List.set st x0 (.map ty_string ty_bool r)) = st') {K : PV → List Content → Prop} (h : K (.tup []) st') : ACalls PR n_syntax_uses_expr [(.agg [(.map x0), (.map x1), (.map x2)]), (.agg [(.d (.int .i64 p3.Op)), (.d (.int .i64 p3.N)), (.d (.str p3.S)), (.d (.str p3.Name)), (.d (.str p3.Src)), (.d (.sl (List.map T_api_Expr.row p3.Args)))])] st K := (cs_syntax_uses_expr n) p0 p1 p2 p3 hr hx_x0 hx_x1 hx_x2 hne_x0_x1 hne_x0_x2 hst h

set_option maxRecDepth 100000 in
theorem c_slices_Clone_api_Stmt_api_Stmt (p0 : List T_api_Stmt) {r : List T_api_Stmt} (hr : cloneL 144 p0 = some r) {st : List Content} : ACalls PR n_slices_Clone_api_Stmt_api_Stmt [.d (.sl (List.map T_api_Stmt.row p0))] st (fun p st' => p = .own st.length 1 ∧ st' = st ++ [.row ty_api_Stmt 1 (List.map T_api_Stmt.row r)]) := by
  have hb : p0.length * 144 ≤ 140737488355328 ∧ r = p0 := by
    unfold cloneL at hr; split at hr
    · rename_i h; exact ⟨h, by cases hr; rfl⟩
    · cases hr
  obtain ⟨hb, rfl⟩ := hb
  have hz : ∀ row, row ∈ List.map T_api_Stmt.row r → row.length = 8 := rowlen T_api_Stmt.row_eq
  refine ACalls.of_ownG F_slices_Clone_api_Stmt_api_Stmt (Nat.le_of_ble_eq_true rfl) fun hwf => ?_
  rw [args0_1]
  refine entry_nil ?_
  unfold x_slices_Clone_api_Stmt_api_Stmt
  refine x_seq ?_
  refine x_region ?_
  unfold x_slices_Clone_api_Stmt_api_Stmt_r0
  refine o_move e_c ?_
  refine run_nil ?_
  refine k_then ?_
  refine x_seq ?_
  refine x_seq ?_
  refine x_region ?_
  unfold x_slices_Clone_api_Stmt_api_Stmt_r1
  refine o_move (e_t (e_miss rfl e_hit)) ?_
  refine o_eqNil (ar_of (e_t e_hit) ar_d) (fun h0 => ?_) ?_
  · refine run_nil ?_
    refine k_then ?_
    refine x_cond_t (e_t e_hit) ?_
    refine x_seq ?_
    refine x_region ?_
    unfold x_slices_Clone_api_Stmt_api_Stmt_r2
    refine o_move e_c ?_
    refine run_nil ?_
    refine k_then ?_
    refine x_ret ?_
    refine k_thenR ?_
    have hl : (st ++ [] : List Content).length = st.length := by simp
    refine ⟨_, Ghost.adoptV _ 2 [] ty_api_Stmt 8 1 e_hit rfl (by simp), [.own st.length 1], st.length + 1, r_tmp (by simp only [hl]; exact e_hit) r_nil, by omega, ?_, ?_⟩
    · simp [pack, cutV, belowB]
    · rw [h0]; simp only [List.append_nil]; exact cutS_id (hwf.push (fun cells h => by cases h)) (by simp)
  · refine run_nil ?_
    refine k_then ?_
    refine x_cond_f (e_t e_hit) ?_
    refine x_skip ?_
    refine k_then ?_
    refine x_seq ?_
    refine x_region ?_
    unfold x_slices_Clone_api_Stmt_api_Stmt_r3
    refine o_slice (rows := []) rw_nil ?_
    refine o_move (e_t (e_m4 rfl e_hit)) ?_
    refine o_appX (k := 0) rfl rfl (ar_of (e_t e_hit) ar_d) hz (e_t (e_miss rfl e_hit)) (by simp) (by simpa using hb) ?_
    refine o_move (e_t e_hit) ?_
    refine run_nil ?_
    refine k_then ?_
    refine x_ret ?_
    refine ⟨_, Ghost.refl _, [.own (st.length + 0) 1], st.length + 1, r_tmp e_hit r_nil, by omega, ?_, ?_⟩
    · simp [pack, cutV, belowB]
    · simp only [List.nil_append]; exact cutS_id (hwf.push (fun cells h => by cases h)) (by simp)
end Go.Ax
