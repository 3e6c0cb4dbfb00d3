import Derived.Test.YtojkpenjeglipaaYT
import Derived.Test.YtojkpenjeglipaaVX
import Derived.Test.YtojkpenjeglipaaPrim
import Derived.Test.YtojkpenjeglipaaYD1
import Derived.Test.YtojkpenjeglipaaYD7
import Derived.Test.YtojkpenjeglipaaYD9
set_option linter.unusedVariables false
set_option linter.unusedSimpArgs false
namespace Go.Ax
attribute [local irreducible] xexec xops xpre xrun xacc thenX inBlockX RetK XLoop upd ev u0 frzA frz asRows binK mmD bnd okAll fillP fillOk rowsOf toDs frz1 pack cutV tokC tokArgs
variable {st : List Content}

def d_syntax_Reads (n : Nat) (p0 : T_api_Proc) : Option (List ByteArray) :=
  ((d_syntax_used n p0).bind fun v1 => ((sortKeysL v1.1).bind fun v2 => some v2))
set_option maxRecDepth 100000 in
set_option maxHeartbeats 4000000 in
theorem c_syntax_Reads (n : Nat) (p0 : T_api_Proc) {r : (List ByteArray)} (hr : d_syntax_Reads n p0 = some r) {K : PV → List Content → Prop} (h : K (.d (.sl (List.map rS r))) st) : ACalls PR n_syntax_Reads [(.agg [(.d (.str p0.Name)), (.d (.str p0.From)), (.d (.str p0.At)), (.d (.int .i64 p0.Fuel)), (.d (.sl (List.map T_api_Column.row p0.Params))), (.d (.sl (List.map T_api_Stmt.row p0.Body)))])] st K := by
  refine ACalls.of F_syntax_Reads (Nat.le_of_ble_eq_true rfl) fun hwf => ?_
  rw [args0_1]
  refine entry_nil ?_
  unfold x_syntax_Reads
  rw [d_syntax_Reads] at hr
  refine x_seq ?_
  refine x_region ?_
  unfold x_syntax_Reads_r0
  refine o_box (k := 0) rfl rfl (e_t e_hit) pc_agg (by exact rfl) ?_
  refine o_move e_c ?_
  refine run_nil ?_
  refine k_then ?_
  refine x_seq ?_
  refine x_region ?_
  unfold x_syntax_Reads_r1
  refine o_loadA (e_t (e_miss rfl e_hit)) ((g_ext rfl 0).trans rfl) (Nat.le_of_ble_eq_true rfl) (by exact rfl) ?_
  obtain ⟨v1, hc_v1, hr⟩ := bind_some hr
  refine o_call (a_cons (e_t e_hit) (fz_agg (f_cons f_d (f_cons f_d (f_cons f_d (f_cons f_d (f_cons f_d (f_cons f_d f_nil))))))) a_nil) ?_
  refine c_syntax_used n p0 hc_v1 (m := st.length + 1) (by simp) (List.append_assoc _ _ _) ?_
  refine o_field (e_t e_hit) (by exact rfl) ?_
  refine o_call (a_cons (e_t e_hit) fz_map a_nil) ?_
  refine (c_keysL (n0 := st.length) (k := 6) rfl rfl (by simp)).mono ?_
  rintro _ _ ⟨rfl, rfl⟩
  obtain ⟨v2, hc_v2, hr⟩ := bind_some hr
  refine o_call (a_cons (e_t e_hit) fz_fn a_nil) ?_
  refine c_sortKeysL ((g_ext rfl 6).trans rfl) ((g_ext rfl 3).trans rfl) hc_v2 ?_
  refine o_move (e_t e_hit) ?_
  refine run_nil ?_
  refine k_then ?_
  refine x_ret ?_
  cases hr
  exact retK (r_tmp e_hit r_nil) (p_one fz_d v_d) (cutS_wf hwf) h

def d_affluxref05_Same_l0b (p0 : (List ByteArray)) (p1 : (List ByteArray)) (rec_l_0 : Int → Option Bool) (v2 : Int) : Option Bool :=
  (bif (decide (v2 < (p0.length : Int))) then ((idxL p0 v2).bind fun v3 => ((idxL p1 v2).bind fun v4 => (bif (!decide (v3 = v4)) then some false else rec_l_0 (IntKind.wrap .i64 (v2 + (1 : Int)))))) else some true)
def d_affluxref05_Same_l0 (p0 : (List ByteArray)) (p1 : (List ByteArray)) : Nat → Int → Option Bool
  | 0, _ => none
  | m + 1, v2 => d_affluxref05_Same_l0b p0 p1 (d_affluxref05_Same_l0 p0 p1 m) v2
def d_affluxref05_Same (n : Nat) (p0 : (List ByteArray)) (p1 : (List ByteArray)) : Option Bool :=
  (bif (!decide ((p0.length : Int) = (p1.length : Int))) then some false else (d_affluxref05_Same_l0 p0 p1 n (0 : Int)))
set_option maxRecDepth 100000 in
set_option maxHeartbeats 4000000 in
theorem c_affluxref05_Same (n : Nat) (p0 : (List ByteArray)) (p1 : (List ByteArray)) {r : Bool} (hr : d_affluxref05_Same n p0 p1 = some r) {K : PV → List Content → Prop} (h : K (.d (.bool r)) st) : ACalls PR n_affluxref05_Same [(.d (.sl (List.map rS p0))), (.d (.sl (List.map rS p1)))] st K := by
  refine ACalls.of F_affluxref05_Same (Nat.le_of_ble_eq_true rfl) fun hwf => ?_
  rw [args0_2]
  refine entry_nil ?_
  unfold x_affluxref05_Same
  rw [d_affluxref05_Same] at hr
  refine x_seq ?_
  refine x_region ?_
  unfold x_affluxref05_Same_r0
  refine o_move e_c ?_
  refine run_nil ?_
  refine k_then ?_
  refine x_seq ?_
  refine x_seq ?_
  refine x_region ?_
  unfold x_affluxref05_Same_r1
  refine o_move (e_t (e_miss rfl e_hit)) ?_
  refine o_lenL (row := rS) (ar_of (e_t e_hit) ar_d) ?_
  refine o_move (e_t (e_m4 rfl e_hit)) ?_
  refine o_lenL (row := rS) (ar_of (e_t e_hit) ar_d) ?_
  refine o_bin (e_t (e_m2 rfl e_hit)) (e_t e_hit) (b_neqL ?_)
  refine run_nil ?_
  refine k_then ?_
  refine x_condL (e_t e_hit) hr (fun hr => ?_) (fun hr => ?_)
  · refine x_seq ?_
    refine x_region ?_
    unfold x_affluxref05_Same_r2
    refine o_move e_c ?_
    refine run_nil ?_
    refine k_then ?_
    refine x_ret ?_
    refine k_thenR ?_
    cases hr
    exact retK (r_tmp e_hit r_nil) (p_one fz_d v_d) (cutS_wf hwf) h
  refine x_skip ?_
  refine k_then ?_
  refine x_seq ?_
  refine x_seq ?_
  refine x_region ?_
  unfold x_affluxref05_Same_r3
  refine o_move e_c ?_
  refine run_nil ?_
  refine k_then ?_
  refine x_block ?_
  refine x_loopL (fun m f st' => ∃ (v2 : Int), d_affluxref05_Same_l0 p0 p1 m v2 = some r ∧ f 0 = (.d (.sl (List.map rS p0))) ∧ f 1 = (.d (.sl (List.map rS p1))) ∧ f 5 = (.d (.int .i64 v2)) ∧ st' = st ++ []) n (Ghost.refl _) ⟨(0 : Int), hr, (e_m4 rfl (e_m2 rfl (e_miss rfl e_hit))), (e_m4 rfl (e_m4 rfl e_hit)), e_hit, rfl⟩ ?_
  rintro m f st' ⟨v2, hr, h0, h1, h5, rfl⟩
  cases m with
  | zero => cases hr
  | succ m_0 =>
    rw [d_affluxref05_Same_l0] at hr
    generalize hrec_0 : d_affluxref05_Same_l0 p0 p1 m_0 = rec_l_0 at hr
    rw [d_affluxref05_Same_l0b] at hr
    unfold x_affluxref05_Same_l8
    refine x_seq ?_
    refine x_seq ?_
    refine x_region ?_
    unfold x_affluxref05_Same_r4
    refine o_move (e_t h5) ?_
    refine o_move (e_t (e_miss rfl h0)) ?_
    refine o_lenL (row := rS) (ar_of (e_t e_hit) ar_d) ?_
    refine o_bin (e_t (e_m2 rfl e_hit)) (e_t e_hit) (b_lss ?_)
    refine run_nil ?_
    refine k_then ?_
    refine x_condL (e_t e_hit) hr (fun hr => ?_) (fun hr => ?_)
    rotate_left
    · refine x_exit ?_
      refine k_thenE ?_
      refine k_thenE ?_
      refine k_inE ?_
      refine k_then ?_
      refine x_seq ?_
      refine x_region ?_
      unfold x_affluxref05_Same_r9
      refine o_move e_c ?_
      refine run_nil ?_
      refine k_then ?_
      refine x_ret ?_
      cases hr
      exact retK (r_tmp e_hit r_nil) (p_one fz_d v_d) (cutS_wf hwf) h
    refine x_skip ?_
    refine k_then ?_
    refine x_seq ?_
    refine x_block ?_
    refine x_seq ?_
    refine x_regionS (k := 0) rfl rfl ?_
    unfold x_affluxref05_Same_r5
    refine o_move (e_t (e_m4 rfl h0)) ?_
    refine o_move (e_t (e_m4 rfl (e_miss rfl h5))) ?_
    refine o_idxL (row := rS) (ar_of (e_t (e_miss rfl e_hit)) ar_d) (e_t e_hit) hr (fun _ => rfl) (fun _ => rfl) (fun v3 hr => ?_)
    refine o_loadD (e_t e_hit) (by exact rfl) ?_
    refine o_move (e_t (e_m4 rfl (e_m4 rfl h1))) ?_
    refine o_move (e_t (e_m4 rfl (e_m4 rfl (e_miss rfl h5)))) ?_
    refine o_idxL (row := rS) (ar_of (e_t (e_miss rfl e_hit)) ar_d) (e_t e_hit) hr (fun _ => rfl) (fun _ => rfl) (fun v4 hr => ?_)
    refine o_loadD (e_t e_hit) (by exact rfl) ?_
    refine o_bin (e_t (e_m4 rfl e_hit)) (e_t e_hit) (b_sneqL ?_)
    refine run_nil ?_
    refine k_then ?_
    refine x_condL (e_t e_hit) hr (fun hr => ?_) (fun hr => ?_)
    rotate_left
    · refine x_skip ?_
      refine k_inN ?_
      refine k_then ?_
      refine x_region ?_
      unfold x_affluxref05_Same_r7
      refine o_move (e_t (e_m4 rfl (e_m4 rfl (e_m4 rfl (e_miss rfl h5))))) ?_
      refine o_bin (e_t e_hit) e_c (b_add ?_)
      refine o_move (e_t e_hit) ?_
      refine run_nil ?_
      refine k_then ?_
      exact ⟨m_0, _, Nat.lt_succ_self m_0, Ghost.refl _, (IntKind.wrap .i64 (v2 + (1 : Int))), (by rw [hrec_0]; exact hr), (e_m4 rfl (e_m4 rfl (e_m4 rfl (e_m4 rfl h0)))), (e_m4 rfl (e_m4 rfl (e_m4 rfl (e_m4 rfl h1)))), e_hit, rfl⟩
    refine x_seq ?_
    refine x_region ?_
    unfold x_affluxref05_Same_r6
    refine o_move e_c ?_
    refine run_nil ?_
    refine k_then ?_
    refine x_ret ?_
    refine k_inR ?_
    refine k_thenR ?_
    refine k_thenR ?_
    refine k_inR ?_
    refine k_thenR ?_
    cases hr
    exact retK (r_tmp e_hit r_nil) (p_one fz_d v_d) (cutS_wf hwf) h

def d_syntax_Writes (n : Nat) (p0 : T_api_Proc) : Option (List ByteArray) :=
  ((d_syntax_used n p0).bind fun v1 => ((sortKeysL v1.2.1).bind fun v2 => some v2))
set_option maxRecDepth 100000 in
set_option maxHeartbeats 4000000 in
theorem c_syntax_Writes (n : Nat) (p0 : T_api_Proc) {r : (List ByteArray)} (hr : d_syntax_Writes n p0 = some r) {K : PV → List Content → Prop} (h : K (.d (.sl (List.map rS r))) st) : ACalls PR n_syntax_Writes [(.agg [(.d (.str p0.Name)), (.d (.str p0.From)), (.d (.str p0.At)), (.d (.int .i64 p0.Fuel)), (.d (.sl (List.map T_api_Column.row p0.Params))), (.d (.sl (List.map T_api_Stmt.row p0.Body)))])] st K := by
  refine ACalls.of F_syntax_Writes (Nat.le_of_ble_eq_true rfl) fun hwf => ?_
  rw [args0_1]
  refine entry_nil ?_
  unfold x_syntax_Writes
  rw [d_syntax_Writes] at hr
  refine x_seq ?_
  refine x_region ?_
  unfold x_syntax_Writes_r0
  refine o_box (k := 0) rfl rfl (e_t e_hit) pc_agg (by exact rfl) ?_
  refine o_move e_c ?_
  refine run_nil ?_
  refine k_then ?_
  refine x_seq ?_
  refine x_region ?_
  unfold x_syntax_Writes_r1
  refine o_loadA (e_t (e_miss rfl e_hit)) ((g_ext rfl 0).trans rfl) (Nat.le_of_ble_eq_true rfl) (by exact rfl) ?_
  obtain ⟨v1, hc_v1, hr⟩ := bind_some hr
  refine o_call (a_cons (e_t e_hit) (fz_agg (f_cons f_d (f_cons f_d (f_cons f_d (f_cons f_d (f_cons f_d (f_cons f_d f_nil))))))) a_nil) ?_
  refine c_syntax_used n p0 hc_v1 (m := st.length + 1) (by simp) (List.append_assoc _ _ _) ?_
  refine o_field (e_t e_hit) (by exact rfl) ?_
  refine o_call (a_cons (e_t e_hit) fz_map a_nil) ?_
  refine (c_keysL (n0 := st.length) (k := 6) rfl rfl (by simp)).mono ?_
  rintro _ _ ⟨rfl, rfl⟩
  obtain ⟨v2, hc_v2, hr⟩ := bind_some hr
  refine o_call (a_cons (e_t e_hit) fz_fn a_nil) ?_
  refine c_sortKeysL ((g_ext rfl 6).trans rfl) ((g_ext rfl 4).trans rfl) hc_v2 ?_
  refine o_move (e_t e_hit) ?_
  refine run_nil ?_
  refine k_then ?_
  refine x_ret ?_
  cases hr
  exact retK (r_tmp e_hit r_nil) (p_one fz_d v_d) (cutS_wf hwf) h

def d_affluxlaw12_awake_j1 (v0 : (Int × Int)) (v7 : Bool) : Option Bool :=
  (bif v7 then (bif (decide (v0.1 = (2 : Int))) then some (decide (v0.2 = (2 : Int))) else some false) else some false)
def d_affluxlaw12_awake_j0 (n : Nat) (v0 : (Int × Int)) (v4 : Bool) : Option Bool :=
  (bif v4 then ((d_syntax_Writes n (⟨(⟨#[112]⟩ : ByteArray), (⟨#[]⟩ : ByteArray), (⟨#[]⟩ : ByteArray), (1 : Int), [], [(⟨(5 : Int), (⟨#[97]⟩ : ByteArray), (⟨#[116]⟩ : ByteArray), (0 : Int), [], [(⟨(3 : Int), (1 : Int), (⟨#[]⟩ : ByteArray), (⟨#[]⟩ : ByteArray), (⟨#[]⟩ : ByteArray), []⟩ : T_api_Expr)], [], []⟩ : T_api_Stmt)]⟩ : T_api_Proc)).bind fun v5 => ((d_affluxref05_Same n v5 ([(⟨#[116]⟩ : ByteArray)])).bind fun v6 => (d_affluxlaw12_awake_j1 v0 v6))) else (d_affluxlaw12_awake_j1 v0 false))
def d_affluxlaw12_awake (n : Nat)  : Option Bool :=
  ((d_syntax_Size n (⟨(⟨#[112]⟩ : ByteArray), (⟨#[]⟩ : ByteArray), (⟨#[]⟩ : ByteArray), (1 : Int), [], [(⟨(5 : Int), (⟨#[97]⟩ : ByteArray), (⟨#[116]⟩ : ByteArray), (0 : Int), [], [(⟨(3 : Int), (1 : Int), (⟨#[]⟩ : ByteArray), (⟨#[]⟩ : ByteArray), (⟨#[]⟩ : ByteArray), []⟩ : T_api_Expr)], [], []⟩ : T_api_Stmt)]⟩ : T_api_Proc)).bind fun v0 => ((d_syntax_Right n (⟨(⟨#[112]⟩ : ByteArray), (⟨#[]⟩ : ByteArray), (⟨#[]⟩ : ByteArray), (1 : Int), [], [(⟨(5 : Int), (⟨#[97]⟩ : ByteArray), (⟨#[116]⟩ : ByteArray), (0 : Int), [], [(⟨(3 : Int), (1 : Int), (⟨#[]⟩ : ByteArray), (⟨#[]⟩ : ByteArray), (⟨#[]⟩ : ByteArray), []⟩ : T_api_Expr)], [], []⟩ : T_api_Stmt)]⟩ : T_api_Proc)).bind fun v1 => (bif v1 then ((d_syntax_Reads n (⟨(⟨#[112]⟩ : ByteArray), (⟨#[]⟩ : ByteArray), (⟨#[]⟩ : ByteArray), (1 : Int), [], [(⟨(5 : Int), (⟨#[97]⟩ : ByteArray), (⟨#[116]⟩ : ByteArray), (0 : Int), [], [(⟨(3 : Int), (1 : Int), (⟨#[]⟩ : ByteArray), (⟨#[]⟩ : ByteArray), (⟨#[]⟩ : ByteArray), []⟩ : T_api_Expr)], [], []⟩ : T_api_Stmt)]⟩ : T_api_Proc)).bind fun v2 => ((d_affluxref05_Same n v2 ([(⟨#[116]⟩ : ByteArray)])).bind fun v3 => (d_affluxlaw12_awake_j0 n v0 v3))) else (d_affluxlaw12_awake_j0 n v0 false))))
set_option maxRecDepth 100000 in
set_option maxHeartbeats 4000000 in
theorem c_affluxlaw12_awake (n : Nat)  {r : Bool} (hr : d_affluxlaw12_awake n = some r) {K : PV → List Content → Prop} (h : K (.d (.bool r)) st) : ACalls PR n_affluxlaw12_awake [] st K := by
  refine ACalls.of F_affluxlaw12_awake (Nat.le_of_ble_eq_true rfl) fun hwf => ?_
  rw [args0_0]
  refine entry_nil ?_
  unfold x_affluxlaw12_awake
  rw [d_affluxlaw12_awake] at hr
  refine x_seq ?_
  refine x_region ?_
  unfold x_affluxlaw12_awake_r0
  refine o_move e_c ?_
  refine run_nil ?_
  refine k_then ?_
  refine x_seq ?_
  refine x_region ?_
  unfold x_affluxlaw12_awake_r1
  refine o_build (cs := [(.d (.int .i64 (3 : Int))), (.d (.int .i64 (1 : Int))), (.d (.str (⟨#[]⟩ : ByteArray))), (.d (.str (⟨#[]⟩ : ByteArray))), (.d (.str (⟨#[]⟩ : ByteArray))), (.ex [])]) (fo_cons e_c pc_d rfl (Nat.le_of_ble_eq_true rfl) (by exact rfl) (fo_cons e_c pc_d rfl (Nat.le_of_ble_eq_true rfl) (by exact rfl) fo_nil)) (fp_cons e_c pc_d (by exact rfl) (fp_cons e_c pc_d (by exact rfl) fp_nil)) ?_
  refine o_alloc (k := 0) rfl rfl ?_
  refine o_store (e_t e_hit) ((g_ext rfl 0).trans rfl) (e_t (e_miss rfl e_hit)) pc_agg rfl (Nat.le_of_ble_eq_true rfl) (by exact rfl) (cells' := [(.d (.int .i64 (3 : Int))), (.d (.int .i64 (1 : Int))), (.d (.str (⟨#[]⟩ : ByteArray))), (.d (.str (⟨#[]⟩ : ByteArray))), (.d (.str (⟨#[]⟩ : ByteArray))), (.ex [])]) (by exact rfl) (s_ext rfl _ _) ?_
  refine run_nil ?_
  refine k_then ?_
  refine x_seq ?_
  refine x_region ?_
  unfold x_affluxlaw12_awake_r2
  refine o_loadA (e_t e_hit) ((g_ext rfl 0).trans rfl) (Nat.le_of_ble_eq_true rfl) (by exact rfl) ?_
  refine o_slice (rows := List.map T_api_Expr.row [(⟨(3 : Int), (1 : Int), (⟨#[]⟩ : ByteArray), (⟨#[]⟩ : ByteArray), (⟨#[]⟩ : ByteArray), []⟩ : T_api_Expr)]) (rows_st (by simp only [List.map, T_api_Expr.row_eq]) (rw_cons (e_t e_hit) pc_agg (td_cons f_d (td_cons f_d (td_cons f_d (td_cons f_d (td_cons f_d (td_cons f_ex td_nil)))))) rfl rw_nil)) ?_
  refine o_build (cs := [(.d (.int .i64 (5 : Int))), (.d (.str (⟨#[97]⟩ : ByteArray))), (.d (.str (⟨#[116]⟩ : ByteArray))), (.d (.int .i64 (0 : Int))), (.ex []), (.ex (List.map T_api_Expr.row ([(⟨(3 : Int), (1 : Int), (⟨#[]⟩ : ByteArray), (⟨#[]⟩ : ByteArray), (⟨#[]⟩ : ByteArray), []⟩ : T_api_Expr)]))), (.ex []), (.ex [])]) (fo_cons e_c pc_d rfl (Nat.le_of_ble_eq_true rfl) (by exact rfl) (fo_cons e_c pc_d rfl (Nat.le_of_ble_eq_true rfl) (by exact rfl) (fo_cons e_c pc_d rfl (Nat.le_of_ble_eq_true rfl) (by exact rfl) (fo_cons (e_t e_hit) rfl rfl (Nat.le_of_ble_eq_true rfl) (by exact rfl) fo_nil)))) (fp_cons e_c pc_d (by exact rfl) (fp_cons e_c pc_d (by exact rfl) (fp_cons e_c pc_d (by exact rfl) (fp_cons (e_t e_hit) rfl (by exact rfl) fp_nil)))) ?_
  refine o_slice (rows := List.map T_api_Stmt.row [(⟨(5 : Int), (⟨#[97]⟩ : ByteArray), (⟨#[116]⟩ : ByteArray), (0 : Int), [], [(⟨(3 : Int), (1 : Int), (⟨#[]⟩ : ByteArray), (⟨#[]⟩ : ByteArray), (⟨#[]⟩ : ByteArray), []⟩ : T_api_Expr)], [], []⟩ : T_api_Stmt)]) (rows_st (by simp only [List.map, T_api_Stmt.row_eq]) (rw_cons (e_t e_hit) pc_agg (td_cons f_d (td_cons f_d (td_cons f_d (td_cons f_d (td_cons f_ex (td_cons f_ex (td_cons f_ex (td_cons f_ex td_nil)))))))) rfl rw_nil)) ?_
  refine o_build (cs := [(.d (.str (⟨#[112]⟩ : ByteArray))), (.d (.str (⟨#[]⟩ : ByteArray))), (.d (.str (⟨#[]⟩ : ByteArray))), (.d (.int .i64 (1 : Int))), (.ex []), (.ex (List.map T_api_Stmt.row ([(⟨(5 : Int), (⟨#[97]⟩ : ByteArray), (⟨#[116]⟩ : ByteArray), (0 : Int), [], [(⟨(3 : Int), (1 : Int), (⟨#[]⟩ : ByteArray), (⟨#[]⟩ : ByteArray), (⟨#[]⟩ : ByteArray), []⟩ : T_api_Expr)], [], []⟩ : T_api_Stmt)])))]) (fo_cons e_c pc_d rfl (Nat.le_of_ble_eq_true rfl) (by exact rfl) (fo_cons e_c pc_d rfl (Nat.le_of_ble_eq_true rfl) (by exact rfl) (fo_cons (e_t e_hit) rfl rfl (Nat.le_of_ble_eq_true rfl) (by exact rfl) fo_nil))) (fp_cons e_c pc_d (by exact rfl) (fp_cons e_c pc_d (by exact rfl) (fp_cons (e_t e_hit) rfl (by exact rfl) fp_nil))) ?_
  refine o_alloc (k := 1) rfl rfl ?_
  refine o_store (e_t e_hit) ((g_ext rfl 1).trans rfl) (e_t (e_miss rfl e_hit)) pc_agg rfl (Nat.le_of_ble_eq_true rfl) (by exact rfl) (cells' := [(.d (.str (⟨#[112]⟩ : ByteArray))), (.d (.str (⟨#[]⟩ : ByteArray))), (.d (.str (⟨#[]⟩ : ByteArray))), (.d (.int .i64 (1 : Int))), (.ex []), (.ex (List.map T_api_Stmt.row ([(⟨(5 : Int), (⟨#[97]⟩ : ByteArray), (⟨#[116]⟩ : ByteArray), (0 : Int), [], [(⟨(3 : Int), (1 : Int), (⟨#[]⟩ : ByteArray), (⟨#[]⟩ : ByteArray), (⟨#[]⟩ : ByteArray), []⟩ : T_api_Expr)], [], []⟩ : T_api_Stmt)])))]) (by exact rfl) (s_ext rfl _ _) ?_
  refine run_nil ?_
  refine k_then ?_
  refine x_seq ?_
  refine x_region ?_
  unfold x_affluxlaw12_awake_r3
  refine o_loadA (e_t e_hit) ((g_ext rfl 1).trans rfl) (Nat.le_of_ble_eq_true rfl) (by exact rfl) ?_
  obtain ⟨v0, hc_v0, hr⟩ := bind_some hr
  refine o_call (a_cons (e_t e_hit) (fz_agg (f_cons f_d (f_cons f_d (f_cons f_d (f_cons f_d (f_cons f_ex (f_cons f_ex f_nil))))))) a_nil) ?_
  refine c_syntax_Size n (⟨(⟨#[112]⟩ : ByteArray), (⟨#[]⟩ : ByteArray), (⟨#[]⟩ : ByteArray), (1 : Int), [], [(⟨(5 : Int), (⟨#[97]⟩ : ByteArray), (⟨#[116]⟩ : ByteArray), (0 : Int), [], [(⟨(3 : Int), (1 : Int), (⟨#[]⟩ : ByteArray), (⟨#[]⟩ : ByteArray), (⟨#[]⟩ : ByteArray), []⟩ : T_api_Expr)], [], []⟩ : T_api_Stmt)]⟩ : T_api_Proc) hc_v0 ?_
  refine o_move (e_t e_hit) ?_
  refine o_ext (e_t e_hit) (by exact rfl) ?_
  refine o_ext (e_t (e_miss rfl e_hit)) (by exact rfl) ?_
  refine o_move (e_t (e_miss rfl e_hit)) ?_
  refine o_move (e_t (e_miss rfl e_hit)) ?_
  refine run_nil ?_
  refine k_then ?_
  refine x_seq ?_
  refine x_region ?_
  unfold x_affluxlaw12_awake_r4
  refine run_join (fun f st' => ∃ (v4 : Bool), d_affluxlaw12_awake_j0 n v0 v4 = some r ∧ f 2 = (.ptr (st.length + 1) 0) ∧ f 3 = (.d (.int .i64 v0.1)) ∧ f 4 = (.d (.int .i64 v0.2)) ∧ f 23 = (.d (.bool v4)) ∧ st' = st ++ [(.box [(.d (.int .i64 (3 : Int))), (.d (.int .i64 (1 : Int))), (.d (.str (⟨#[]⟩ : ByteArray))), (.d (.str (⟨#[]⟩ : ByteArray))), (.d (.str (⟨#[]⟩ : ByteArray))), (.ex [])]), (.box [(.d (.str (⟨#[112]⟩ : ByteArray))), (.d (.str (⟨#[]⟩ : ByteArray))), (.d (.str (⟨#[]⟩ : ByteArray))), (.d (.int .i64 (1 : Int))), (.ex []), (.ex (List.map T_api_Stmt.row ([(⟨(5 : Int), (⟨#[97]⟩ : ByteArray), (⟨#[116]⟩ : ByteArray), (0 : Int), [], [(⟨(3 : Int), (1 : Int), (⟨#[]⟩ : ByteArray), (⟨#[]⟩ : ByteArray), (⟨#[]⟩ : ByteArray), []⟩ : T_api_Expr)], [], []⟩ : T_api_Stmt)])))])]) ?_ ?_
  · unfold x_affluxlaw12_awake_r4s0
    refine o_loadA (e_t (e_m4 rfl (e_m2 rfl (e_miss rfl e_hit)))) ((g_ext rfl 1).trans rfl) (Nat.le_of_ble_eq_true rfl) (by exact rfl) ?_
    obtain ⟨v1, hc_v1, hr⟩ := bind_some hr
    refine o_call (a_cons (e_t e_hit) (fz_agg (f_cons f_d (f_cons f_d (f_cons f_d (f_cons f_d (f_cons f_ex (f_cons f_ex f_nil))))))) a_nil) ?_
    refine c_syntax_Right n (⟨(⟨#[112]⟩ : ByteArray), (⟨#[]⟩ : ByteArray), (⟨#[]⟩ : ByteArray), (1 : Int), [], [(⟨(5 : Int), (⟨#[97]⟩ : ByteArray), (⟨#[116]⟩ : ByteArray), (0 : Int), [], [(⟨(3 : Int), (1 : Int), (⟨#[]⟩ : ByteArray), (⟨#[]⟩ : ByteArray), (⟨#[]⟩ : ByteArray), []⟩ : T_api_Expr)], [], []⟩ : T_api_Stmt)]⟩ : T_api_Proc) hc_v1 ?_
    refine o_move (e_t e_hit) ?_
    refine g_splitL e_hit hr (fun hr => ?_) (fun hr => ?_)
    rotate_left
    · refine g_skip e_hit ?_
      refine g_skip (e_miss rfl e_hit) ?_
      refine g_skip (e_m2 rfl e_hit) ?_
      refine g_skip (e_m2 rfl (e_miss rfl e_hit)) ?_
      refine o_pick_f (e_t (e_m4 rfl e_hit)) e_c ?_
      refine run_nil ?_
      exact ⟨false, hr, (e_m4 rfl (e_m4 rfl (e_m4 rfl (e_m4 rfl e_hit)))), (e_m4 rfl (e_m4 rfl (e_m2 rfl e_hit))), (e_m4 rfl (e_m4 rfl (e_miss rfl e_hit))), e_hit, rfl⟩
    refine g_run e_hit ?_
    refine o_loadA (e_t (e_m4 rfl (e_m4 rfl (e_m2 rfl (e_miss rfl e_hit))))) ((g_ext rfl 1).trans rfl) (Nat.le_of_ble_eq_true rfl) (by exact rfl) ?_
    refine g_run (e_miss rfl e_hit) ?_
    obtain ⟨v2, hc_v2, hr⟩ := bind_some hr
    refine o_call (a_cons (e_t e_hit) (fz_agg (f_cons f_d (f_cons f_d (f_cons f_d (f_cons f_d (f_cons f_ex (f_cons f_ex f_nil))))))) a_nil) ?_
    refine c_syntax_Reads n (⟨(⟨#[112]⟩ : ByteArray), (⟨#[]⟩ : ByteArray), (⟨#[]⟩ : ByteArray), (1 : Int), [], [(⟨(5 : Int), (⟨#[97]⟩ : ByteArray), (⟨#[116]⟩ : ByteArray), (0 : Int), [], [(⟨(3 : Int), (1 : Int), (⟨#[]⟩ : ByteArray), (⟨#[]⟩ : ByteArray), (⟨#[]⟩ : ByteArray), []⟩ : T_api_Expr)], [], []⟩ : T_api_Stmt)]⟩ : T_api_Proc) hc_v2 ?_
    refine g_run (e_m2 rfl e_hit) ?_
    refine o_slice (rows := List.map rS [(⟨#[116]⟩ : ByteArray)]) ((rw_cons e_c pc_d (td_cons f_d td_nil) rfl rw_nil)) ?_
    refine g_run (e_m2 rfl (e_miss rfl e_hit)) ?_
    obtain ⟨v3, hc_v3, hr⟩ := bind_some hr
    refine o_call (a_cons (e_t (e_miss rfl e_hit)) fz_d (a_cons (e_t e_hit) fz_ex a_nil)) ?_
    refine c_affluxref05_Same n v2 ([(⟨#[116]⟩ : ByteArray)]) hc_v3 ?_
    refine o_pick_t (e_t (e_m4 rfl e_hit)) (e_t e_hit) ?_
    refine run_nil ?_
    exact ⟨v3, hr, (e_m4 rfl (e_m4 rfl (e_m4 rfl (e_m4 rfl e_hit)))), (e_m4 rfl (e_m4 rfl (e_m2 rfl e_hit))), (e_m4 rfl (e_m4 rfl (e_miss rfl e_hit))), e_hit, rfl⟩
  rintro f st' ⟨v4, hr, h2, h3, h4, h23, rfl⟩
  rw [d_affluxlaw12_awake_j0] at hr
  refine run_join (fun f st' => ∃ (v7 : Bool), d_affluxlaw12_awake_j1 v0 v7 = some r ∧ f 3 = (.d (.int .i64 v0.1)) ∧ f 4 = (.d (.int .i64 v0.2)) ∧ f 29 = (.d (.bool v7)) ∧ st' = st ++ [(.box [(.d (.int .i64 (3 : Int))), (.d (.int .i64 (1 : Int))), (.d (.str (⟨#[]⟩ : ByteArray))), (.d (.str (⟨#[]⟩ : ByteArray))), (.d (.str (⟨#[]⟩ : ByteArray))), (.ex [])]), (.box [(.d (.str (⟨#[112]⟩ : ByteArray))), (.d (.str (⟨#[]⟩ : ByteArray))), (.d (.str (⟨#[]⟩ : ByteArray))), (.d (.int .i64 (1 : Int))), (.ex []), (.ex (List.map T_api_Stmt.row ([(⟨(5 : Int), (⟨#[97]⟩ : ByteArray), (⟨#[116]⟩ : ByteArray), (0 : Int), [], [(⟨(3 : Int), (1 : Int), (⟨#[]⟩ : ByteArray), (⟨#[]⟩ : ByteArray), (⟨#[]⟩ : ByteArray), []⟩ : T_api_Expr)], [], []⟩ : T_api_Stmt)])))])]) ?_ ?_
  · unfold x_affluxlaw12_awake_r4s1
    refine o_move (e_t h23) ?_
    refine g_splitL e_hit hr (fun hr => ?_) (fun hr => ?_)
    rotate_left
    · refine g_skip e_hit ?_
      refine g_skip (e_miss rfl e_hit) ?_
      refine g_skip (e_m2 rfl e_hit) ?_
      refine g_skip (e_m2 rfl (e_miss rfl e_hit)) ?_
      refine o_pick_f (e_t (e_m4 rfl e_hit)) e_c ?_
      refine run_nil ?_
      exact ⟨false, hr, (e_m4 rfl (e_m2 rfl (e_miss rfl h3))), (e_m4 rfl (e_m2 rfl (e_miss rfl h4))), e_hit, rfl⟩
    refine g_run e_hit ?_
    refine o_loadA (e_t (e_m2 rfl h2)) ((g_ext rfl 1).trans rfl) (Nat.le_of_ble_eq_true rfl) (by exact rfl) ?_
    refine g_run (e_miss rfl e_hit) ?_
    obtain ⟨v5, hc_v5, hr⟩ := bind_some hr
    refine o_call (a_cons (e_t e_hit) (fz_agg (f_cons f_d (f_cons f_d (f_cons f_d (f_cons f_d (f_cons f_ex (f_cons f_ex f_nil))))))) a_nil) ?_
    refine c_syntax_Writes n (⟨(⟨#[112]⟩ : ByteArray), (⟨#[]⟩ : ByteArray), (⟨#[]⟩ : ByteArray), (1 : Int), [], [(⟨(5 : Int), (⟨#[97]⟩ : ByteArray), (⟨#[116]⟩ : ByteArray), (0 : Int), [], [(⟨(3 : Int), (1 : Int), (⟨#[]⟩ : ByteArray), (⟨#[]⟩ : ByteArray), (⟨#[]⟩ : ByteArray), []⟩ : T_api_Expr)], [], []⟩ : T_api_Stmt)]⟩ : T_api_Proc) hc_v5 ?_
    refine g_run (e_m2 rfl e_hit) ?_
    refine o_slice (rows := List.map rS [(⟨#[116]⟩ : ByteArray)]) ((rw_cons e_c pc_d (td_cons f_d td_nil) rfl rw_nil)) ?_
    refine g_run (e_m2 rfl (e_miss rfl e_hit)) ?_
    obtain ⟨v6, hc_v6, hr⟩ := bind_some hr
    refine o_call (a_cons (e_t (e_miss rfl e_hit)) fz_d (a_cons (e_t e_hit) fz_ex a_nil)) ?_
    refine c_affluxref05_Same n v5 ([(⟨#[116]⟩ : ByteArray)]) hc_v6 ?_
    refine o_pick_t (e_t (e_m4 rfl e_hit)) (e_t e_hit) ?_
    refine run_nil ?_
    exact ⟨v6, hr, (e_m4 rfl (e_m2 rfl (e_miss rfl h3))), (e_m4 rfl (e_m2 rfl (e_miss rfl h4))), e_hit, rfl⟩
  rintro f st' ⟨v7, hr, h3, h4, h29, rfl⟩
  rw [d_affluxlaw12_awake_j1] at hr
  refine run_app ?_
  unfold x_affluxlaw12_awake_r4s2
  refine o_move (e_t h29) ?_
  refine g_splitL e_hit hr (fun hr => ?_) (fun hr => ?_)
  rotate_left
  · refine g_skip e_hit ?_
    refine g_skip (e_miss rfl e_hit) ?_
    refine o_pick_f (e_t (e_m2 rfl e_hit)) e_c ?_
    refine run_nil ?_
    refine run_app ?_
    unfold x_affluxlaw12_awake_r4s3
    refine o_move (e_t e_hit) ?_
    refine g_skip e_hit ?_
    refine g_skip (e_miss rfl e_hit) ?_
    refine o_pick_f (e_t (e_m2 rfl e_hit)) e_c ?_
    refine run_nil ?_
    unfold x_affluxlaw12_awake_r4s4
    refine o_move (e_t e_hit) ?_
    refine run_nil ?_
    refine k_then ?_
    refine x_ret ?_
    cases hr
    exact retK (r_tmp e_hit r_nil) (p_one fz_d v_d) (cutS_wf hwf) h
  refine g_run e_hit ?_
  refine o_move (e_t (e_m2 rfl h3)) ?_
  refine g_run (e_miss rfl e_hit) ?_
  refine o_bin (e_t e_hit) e_c (b_eql ?_)
  refine o_pick_t (e_t (e_m2 rfl e_hit)) (e_t e_hit) ?_
  refine run_nil ?_
  refine run_app ?_
  unfold x_affluxlaw12_awake_r4s3
  refine o_move (e_t e_hit) ?_
  refine g_splitL e_hit hr (fun hr => ?_) (fun hr => ?_)
  rotate_left
  · refine g_skip e_hit ?_
    refine g_skip (e_miss rfl e_hit) ?_
    refine o_pick_f (e_t (e_m2 rfl e_hit)) e_c ?_
    refine run_nil ?_
    unfold x_affluxlaw12_awake_r4s4
    refine o_move (e_t e_hit) ?_
    refine run_nil ?_
    refine k_then ?_
    refine x_ret ?_
    cases hr
    exact retK (r_tmp e_hit r_nil) (p_one fz_d v_d) (cutS_wf hwf) h
  refine g_run e_hit ?_
  refine o_move (e_t (e_m4 rfl (e_m2 rfl (e_miss rfl h4)))) ?_
  refine g_run (e_miss rfl e_hit) ?_
  refine o_bin (e_t e_hit) e_c (b_eql ?_)
  refine o_pick_t (e_t (e_m2 rfl e_hit)) (e_t e_hit) ?_
  refine run_nil ?_
  unfold x_affluxlaw12_awake_r4s4
  refine o_move (e_t e_hit) ?_
  refine run_nil ?_
  refine k_then ?_
  refine x_ret ?_
  cases hr
  exact retK (r_tmp e_hit r_nil) (p_one fz_d v_d) (cutS_wf hwf) h

def d_affluxref12_Reserved_l0b (p0 : ByteArray) (rec_l_0 : Int → Option Bool) (v1 : Int) : Option Bool :=
  (bif (decide (v1 < (([(⟨#[97, 110, 100]⟩ : ByteArray), (⟨#[111, 114]⟩ : ByteArray), (⟨#[110, 111, 116]⟩ : ByteArray), (⟨#[116, 114, 117, 101]⟩ : ByteArray), (⟨#[102, 97, 108, 115, 101]⟩ : ByteArray), (⟨#[108, 101, 116]⟩ : ByteArray), (⟨#[115, 101, 116]⟩ : ByteArray), (⟨#[105, 110, 115, 101, 114, 116]⟩ : ByteArray), (⟨#[117, 112, 100, 97, 116, 101]⟩ : ByteArray), (⟨#[100, 101, 108, 101, 116, 101]⟩ : ByteArray), (⟨#[102, 111, 114]⟩ : ByteArray), (⟨#[105, 110]⟩ : ByteArray), (⟨#[119, 104, 101, 114, 101]⟩ : ByteArray), (⟨#[108, 105, 109, 105, 116]⟩ : ByteArray), (⟨#[105, 102]⟩ : ByteArray), (⟨#[101, 108, 115, 101]⟩ : ByteArray), (⟨#[101, 109, 105, 116]⟩ : ByteArray), (⟨#[97, 98, 111, 114, 116]⟩ : ByteArray), (⟨#[114, 101, 112, 108, 121]⟩ : ByteArray), (⟨#[99, 111, 117, 110, 116]⟩ : ByteArray), (⟨#[115, 117, 109]⟩ : ByteArray), (⟨#[109, 105, 110]⟩ : ByteArray), (⟨#[109, 97, 120]⟩ : ByteArray), (⟨#[105, 110, 116]⟩ : ByteArray), (⟨#[116, 101, 120, 116]⟩ : ByteArray), (⟨#[98, 111, 111, 108]⟩ : ByteArray), (⟨#[116, 97, 98, 108, 101]⟩ : ByteArray), (⟨#[115, 116, 114, 101, 97, 109]⟩ : ByteArray), (⟨#[119, 105, 110, 100, 111, 119]⟩ : ByteArray), (⟨#[115, 105, 110, 107]⟩ : ByteArray), (⟨#[112, 114, 111, 99]⟩ : ByteArray), (⟨#[107, 101, 121]⟩ : ByteArray), (⟨#[117, 110, 105, 113, 117, 101]⟩ : ByteArray), (⟨#[105, 110, 100, 101, 120]⟩ : ByteArray), (⟨#[112, 97, 114, 116, 115]⟩ : ByteArray), (⟨#[98, 121]⟩ : ByteArray), (⟨#[111, 110]⟩ : ByteArray), (⟨#[102, 114, 111, 109]⟩ : ByteArray), (⟨#[97, 116]⟩ : ByteArray), (⟨#[102, 117, 101, 108]⟩ : ByteArray), (⟨#[116, 117, 112, 108, 101, 115]⟩ : ByteArray), (⟨#[98, 97, 116, 99, 104, 101, 115]⟩ : ByteArray), (⟨#[115, 108, 105, 100, 101]⟩ : ByteArray)]).length : Int))) then ((idxL ([(⟨#[97, 110, 100]⟩ : ByteArray), (⟨#[111, 114]⟩ : ByteArray), (⟨#[110, 111, 116]⟩ : ByteArray), (⟨#[116, 114, 117, 101]⟩ : ByteArray), (⟨#[102, 97, 108, 115, 101]⟩ : ByteArray), (⟨#[108, 101, 116]⟩ : ByteArray), (⟨#[115, 101, 116]⟩ : ByteArray), (⟨#[105, 110, 115, 101, 114, 116]⟩ : ByteArray), (⟨#[117, 112, 100, 97, 116, 101]⟩ : ByteArray), (⟨#[100, 101, 108, 101, 116, 101]⟩ : ByteArray), (⟨#[102, 111, 114]⟩ : ByteArray), (⟨#[105, 110]⟩ : ByteArray), (⟨#[119, 104, 101, 114, 101]⟩ : ByteArray), (⟨#[108, 105, 109, 105, 116]⟩ : ByteArray), (⟨#[105, 102]⟩ : ByteArray), (⟨#[101, 108, 115, 101]⟩ : ByteArray), (⟨#[101, 109, 105, 116]⟩ : ByteArray), (⟨#[97, 98, 111, 114, 116]⟩ : ByteArray), (⟨#[114, 101, 112, 108, 121]⟩ : ByteArray), (⟨#[99, 111, 117, 110, 116]⟩ : ByteArray), (⟨#[115, 117, 109]⟩ : ByteArray), (⟨#[109, 105, 110]⟩ : ByteArray), (⟨#[109, 97, 120]⟩ : ByteArray), (⟨#[105, 110, 116]⟩ : ByteArray), (⟨#[116, 101, 120, 116]⟩ : ByteArray), (⟨#[98, 111, 111, 108]⟩ : ByteArray), (⟨#[116, 97, 98, 108, 101]⟩ : ByteArray), (⟨#[115, 116, 114, 101, 97, 109]⟩ : ByteArray), (⟨#[119, 105, 110, 100, 111, 119]⟩ : ByteArray), (⟨#[115, 105, 110, 107]⟩ : ByteArray), (⟨#[112, 114, 111, 99]⟩ : ByteArray), (⟨#[107, 101, 121]⟩ : ByteArray), (⟨#[117, 110, 105, 113, 117, 101]⟩ : ByteArray), (⟨#[105, 110, 100, 101, 120]⟩ : ByteArray), (⟨#[112, 97, 114, 116, 115]⟩ : ByteArray), (⟨#[98, 121]⟩ : ByteArray), (⟨#[111, 110]⟩ : ByteArray), (⟨#[102, 114, 111, 109]⟩ : ByteArray), (⟨#[97, 116]⟩ : ByteArray), (⟨#[102, 117, 101, 108]⟩ : ByteArray), (⟨#[116, 117, 112, 108, 101, 115]⟩ : ByteArray), (⟨#[98, 97, 116, 99, 104, 101, 115]⟩ : ByteArray), (⟨#[115, 108, 105, 100, 101]⟩ : ByteArray)]) v1).bind fun v2 => (bif (decide (v2 = p0)) then some true else rec_l_0 (IntKind.wrap .i64 (v1 + (1 : Int))))) else some false)
def d_affluxref12_Reserved_l0 (p0 : ByteArray) : Nat → Int → Option Bool
  | 0, _ => none
  | m + 1, v1 => d_affluxref12_Reserved_l0b p0 (d_affluxref12_Reserved_l0 p0 m) v1
def d_affluxref12_Reserved (n : Nat) (p0 : ByteArray) : Option Bool :=
  (d_affluxref12_Reserved_l0 p0 n (0 : Int))
set_option maxRecDepth 100000 in
set_option maxHeartbeats 4000000 in
theorem c_affluxref12_Reserved (n : Nat) (p0 : ByteArray) {r : Bool} (hr : d_affluxref12_Reserved n p0 = some r) {K : PV → List Content → Prop} (h : K (.d (.bool r)) st) : ACalls PR n_affluxref12_Reserved [(.d (.str p0))] st K := by
  refine ACalls.of F_affluxref12_Reserved (Nat.le_of_ble_eq_true rfl) fun hwf => ?_
  rw [args0_1]
  refine entry_nil ?_
  unfold x_affluxref12_Reserved
  rw [d_affluxref12_Reserved] at hr
  refine x_seq ?_
  refine x_region ?_
  unfold x_affluxref12_Reserved_r0
  refine o_move e_c ?_
  refine run_nil ?_
  refine k_then ?_
  refine x_seq ?_
  refine x_region ?_
  unfold x_affluxref12_Reserved_r1
  refine o_slice (rows := List.map rS [(⟨#[97, 110, 100]⟩ : ByteArray), (⟨#[111, 114]⟩ : ByteArray), (⟨#[110, 111, 116]⟩ : ByteArray), (⟨#[116, 114, 117, 101]⟩ : ByteArray), (⟨#[102, 97, 108, 115, 101]⟩ : ByteArray), (⟨#[108, 101, 116]⟩ : ByteArray), (⟨#[115, 101, 116]⟩ : ByteArray), (⟨#[105, 110, 115, 101, 114, 116]⟩ : ByteArray), (⟨#[117, 112, 100, 97, 116, 101]⟩ : ByteArray), (⟨#[100, 101, 108, 101, 116, 101]⟩ : ByteArray), (⟨#[102, 111, 114]⟩ : ByteArray), (⟨#[105, 110]⟩ : ByteArray), (⟨#[119, 104, 101, 114, 101]⟩ : ByteArray), (⟨#[108, 105, 109, 105, 116]⟩ : ByteArray), (⟨#[105, 102]⟩ : ByteArray), (⟨#[101, 108, 115, 101]⟩ : ByteArray), (⟨#[101, 109, 105, 116]⟩ : ByteArray), (⟨#[97, 98, 111, 114, 116]⟩ : ByteArray), (⟨#[114, 101, 112, 108, 121]⟩ : ByteArray), (⟨#[99, 111, 117, 110, 116]⟩ : ByteArray), (⟨#[115, 117, 109]⟩ : ByteArray), (⟨#[109, 105, 110]⟩ : ByteArray), (⟨#[109, 97, 120]⟩ : ByteArray), (⟨#[105, 110, 116]⟩ : ByteArray), (⟨#[116, 101, 120, 116]⟩ : ByteArray), (⟨#[98, 111, 111, 108]⟩ : ByteArray), (⟨#[116, 97, 98, 108, 101]⟩ : ByteArray), (⟨#[115, 116, 114, 101, 97, 109]⟩ : ByteArray), (⟨#[119, 105, 110, 100, 111, 119]⟩ : ByteArray), (⟨#[115, 105, 110, 107]⟩ : ByteArray), (⟨#[112, 114, 111, 99]⟩ : ByteArray), (⟨#[107, 101, 121]⟩ : ByteArray), (⟨#[117, 110, 105, 113, 117, 101]⟩ : ByteArray), (⟨#[105, 110, 100, 101, 120]⟩ : ByteArray), (⟨#[112, 97, 114, 116, 115]⟩ : ByteArray), (⟨#[98, 121]⟩ : ByteArray), (⟨#[111, 110]⟩ : ByteArray), (⟨#[102, 114, 111, 109]⟩ : ByteArray), (⟨#[97, 116]⟩ : ByteArray), (⟨#[102, 117, 101, 108]⟩ : ByteArray), (⟨#[116, 117, 112, 108, 101, 115]⟩ : ByteArray), (⟨#[98, 97, 116, 99, 104, 101, 115]⟩ : ByteArray), (⟨#[115, 108, 105, 100, 101]⟩ : ByteArray)]) ((rw_cons e_c pc_d (td_cons f_d td_nil) rfl (rw_cons e_c pc_d (td_cons f_d td_nil) rfl (rw_cons e_c pc_d (td_cons f_d td_nil) rfl (rw_cons e_c pc_d (td_cons f_d td_nil) rfl (rw_cons e_c pc_d (td_cons f_d td_nil) rfl (rw_cons e_c pc_d (td_cons f_d td_nil) rfl (rw_cons e_c pc_d (td_cons f_d td_nil) rfl (rw_cons e_c pc_d (td_cons f_d td_nil) rfl (rw_cons e_c pc_d (td_cons f_d td_nil) rfl (rw_cons e_c pc_d (td_cons f_d td_nil) rfl (rw_cons e_c pc_d (td_cons f_d td_nil) rfl (rw_cons e_c pc_d (td_cons f_d td_nil) rfl (rw_cons e_c pc_d (td_cons f_d td_nil) rfl (rw_cons e_c pc_d (td_cons f_d td_nil) rfl (rw_cons e_c pc_d (td_cons f_d td_nil) rfl (rw_cons e_c pc_d (td_cons f_d td_nil) rfl (rw_cons e_c pc_d (td_cons f_d td_nil) rfl (rw_cons e_c pc_d (td_cons f_d td_nil) rfl (rw_cons e_c pc_d (td_cons f_d td_nil) rfl (rw_cons e_c pc_d (td_cons f_d td_nil) rfl (rw_cons e_c pc_d (td_cons f_d td_nil) rfl (rw_cons e_c pc_d (td_cons f_d td_nil) rfl (rw_cons e_c pc_d (td_cons f_d td_nil) rfl (rw_cons e_c pc_d (td_cons f_d td_nil) rfl (rw_cons e_c pc_d (td_cons f_d td_nil) rfl (rw_cons e_c pc_d (td_cons f_d td_nil) rfl (rw_cons e_c pc_d (td_cons f_d td_nil) rfl (rw_cons e_c pc_d (td_cons f_d td_nil) rfl (rw_cons e_c pc_d (td_cons f_d td_nil) rfl (rw_cons e_c pc_d (td_cons f_d td_nil) rfl (rw_cons e_c pc_d (td_cons f_d td_nil) rfl (rw_cons e_c pc_d (td_cons f_d td_nil) rfl (rw_cons e_c pc_d (td_cons f_d td_nil) rfl (rw_cons e_c pc_d (td_cons f_d td_nil) rfl (rw_cons e_c pc_d (td_cons f_d td_nil) rfl (rw_cons e_c pc_d (td_cons f_d td_nil) rfl (rw_cons e_c pc_d (td_cons f_d td_nil) rfl (rw_cons e_c pc_d (td_cons f_d td_nil) rfl (rw_cons e_c pc_d (td_cons f_d td_nil) rfl (rw_cons e_c pc_d (td_cons f_d td_nil) rfl (rw_cons e_c pc_d (td_cons f_d td_nil) rfl (rw_cons e_c pc_d (td_cons f_d td_nil) rfl (rw_cons e_c pc_d (td_cons f_d td_nil) rfl rw_nil)))))))))))))))))))))))))))))))))))))))))))) ?_
  refine o_move (e_t e_hit) ?_
  refine run_nil ?_
  refine k_then ?_
  refine x_seq ?_
  refine x_seq ?_
  refine x_region ?_
  unfold x_affluxref12_Reserved_r2
  refine o_move e_c ?_
  refine run_nil ?_
  refine k_then ?_
  refine x_block ?_
  refine x_loopL (fun m f st' => ∃ (v1 : Int), d_affluxref12_Reserved_l0 p0 m v1 = some r ∧ f 0 = (.d (.str p0)) ∧ f 3 = (.ex (List.map rS ([(⟨#[97, 110, 100]⟩ : ByteArray), (⟨#[111, 114]⟩ : ByteArray), (⟨#[110, 111, 116]⟩ : ByteArray), (⟨#[116, 114, 117, 101]⟩ : ByteArray), (⟨#[102, 97, 108, 115, 101]⟩ : ByteArray), (⟨#[108, 101, 116]⟩ : ByteArray), (⟨#[115, 101, 116]⟩ : ByteArray), (⟨#[105, 110, 115, 101, 114, 116]⟩ : ByteArray), (⟨#[117, 112, 100, 97, 116, 101]⟩ : ByteArray), (⟨#[100, 101, 108, 101, 116, 101]⟩ : ByteArray), (⟨#[102, 111, 114]⟩ : ByteArray), (⟨#[105, 110]⟩ : ByteArray), (⟨#[119, 104, 101, 114, 101]⟩ : ByteArray), (⟨#[108, 105, 109, 105, 116]⟩ : ByteArray), (⟨#[105, 102]⟩ : ByteArray), (⟨#[101, 108, 115, 101]⟩ : ByteArray), (⟨#[101, 109, 105, 116]⟩ : ByteArray), (⟨#[97, 98, 111, 114, 116]⟩ : ByteArray), (⟨#[114, 101, 112, 108, 121]⟩ : ByteArray), (⟨#[99, 111, 117, 110, 116]⟩ : ByteArray), (⟨#[115, 117, 109]⟩ : ByteArray), (⟨#[109, 105, 110]⟩ : ByteArray), (⟨#[109, 97, 120]⟩ : ByteArray), (⟨#[105, 110, 116]⟩ : ByteArray), (⟨#[116, 101, 120, 116]⟩ : ByteArray), (⟨#[98, 111, 111, 108]⟩ : ByteArray), (⟨#[116, 97, 98, 108, 101]⟩ : ByteArray), (⟨#[115, 116, 114, 101, 97, 109]⟩ : ByteArray), (⟨#[119, 105, 110, 100, 111, 119]⟩ : ByteArray), (⟨#[115, 105, 110, 107]⟩ : ByteArray), (⟨#[112, 114, 111, 99]⟩ : ByteArray), (⟨#[107, 101, 121]⟩ : ByteArray), (⟨#[117, 110, 105, 113, 117, 101]⟩ : ByteArray), (⟨#[105, 110, 100, 101, 120]⟩ : ByteArray), (⟨#[112, 97, 114, 116, 115]⟩ : ByteArray), (⟨#[98, 121]⟩ : ByteArray), (⟨#[111, 110]⟩ : ByteArray), (⟨#[102, 114, 111, 109]⟩ : ByteArray), (⟨#[97, 116]⟩ : ByteArray), (⟨#[102, 117, 101, 108]⟩ : ByteArray), (⟨#[116, 117, 112, 108, 101, 115]⟩ : ByteArray), (⟨#[98, 97, 116, 99, 104, 101, 115]⟩ : ByteArray), (⟨#[115, 108, 105, 100, 101]⟩ : ByteArray)]))) ∧ f 4 = (.d (.int .i64 v1)) ∧ st' = st ++ []) n (Ghost.refl _) ⟨(0 : Int), hr, (e_m4 rfl e_hit), (e_miss rfl e_hit), e_hit, rfl⟩ ?_
  rintro m f st' ⟨v1, hr, h0, h3, h4, rfl⟩
  cases m with
  | zero => cases hr
  | succ m_0 =>
    rw [d_affluxref12_Reserved_l0] at hr
    generalize hrec_0 : d_affluxref12_Reserved_l0 p0 m_0 = rec_l_0 at hr
    rw [d_affluxref12_Reserved_l0b] at hr
    unfold x_affluxref12_Reserved_l7
    refine x_seq ?_
    refine x_seq ?_
    refine x_region ?_
    unfold x_affluxref12_Reserved_r3
    refine o_move (e_t h4) ?_
    refine o_move (e_t (e_miss rfl h3)) ?_
    refine o_lenL (row := rS) (ar_of (e_t e_hit) ar_ex) ?_
    refine o_bin (e_t (e_m2 rfl e_hit)) (e_t e_hit) (b_lss ?_)
    refine run_nil ?_
    refine k_then ?_
    refine x_condL (e_t e_hit) hr (fun hr => ?_) (fun hr => ?_)
    rotate_left
    · refine x_exit ?_
      refine k_thenE ?_
      refine k_thenE ?_
      refine k_inE ?_
      refine k_then ?_
      refine x_seq ?_
      refine x_region ?_
      unfold x_affluxref12_Reserved_r8
      refine o_move e_c ?_
      refine run_nil ?_
      refine k_then ?_
      refine x_ret ?_
      cases hr
      exact retK (r_tmp e_hit r_nil) (p_one fz_d v_d) (cutS_wf hwf) h
    refine x_skip ?_
    refine k_then ?_
    refine x_seq ?_
    refine x_block ?_
    refine x_seq ?_
    refine x_region ?_
    unfold x_affluxref12_Reserved_r4
    refine o_move (e_t (e_m4 rfl h3)) ?_
    refine o_move (e_t (e_m4 rfl (e_miss rfl h4))) ?_
    refine o_idxL (row := rS) (ar_of (e_t (e_miss rfl e_hit)) ar_ex) (e_t e_hit) hr (fun _ => rfl) (fun _ => rfl) (fun v2 hr => ?_)
    refine o_loadD (e_t e_hit) (by exact rfl) ?_
    refine o_move (e_t (e_m4 rfl (e_m4 rfl h0))) ?_
    refine o_bin (e_t (e_miss rfl e_hit)) (e_t e_hit) (b_seql ?_)
    refine run_nil ?_
    refine k_then ?_
    refine x_condL (e_t e_hit) hr (fun hr => ?_) (fun hr => ?_)
    rotate_left
    · refine x_skip ?_
      refine k_inN ?_
      refine k_then ?_
      refine x_region ?_
      unfold x_affluxref12_Reserved_r6
      refine o_move (e_t (e_m4 rfl (e_m4 rfl (e_m2 rfl h4)))) ?_
      refine o_bin (e_t e_hit) e_c (b_add ?_)
      refine o_move (e_t e_hit) ?_
      refine run_nil ?_
      refine k_then ?_
      exact ⟨m_0, _, Nat.lt_succ_self m_0, Ghost.refl _, (IntKind.wrap .i64 (v1 + (1 : Int))), (by rw [hrec_0]; exact hr), (e_m4 rfl (e_m4 rfl (e_m4 rfl (e_miss rfl h0)))), (e_m4 rfl (e_m4 rfl (e_m4 rfl (e_miss rfl h3)))), e_hit, rfl⟩
    refine x_seq ?_
    refine x_region ?_
    unfold x_affluxref12_Reserved_r5
    refine o_move e_c ?_
    refine run_nil ?_
    refine k_then ?_
    refine x_ret ?_
    refine k_inR ?_
    refine k_thenR ?_
    refine k_thenR ?_
    refine k_inR ?_
    refine k_thenR ?_
    cases hr
    exact retK (r_tmp e_hit r_nil) (p_one fz_d v_d) (cutS_wf hwf) h
end Go.Ax
