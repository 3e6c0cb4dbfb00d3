import Derived.Test.YtojkpenjeglipaaYT
import Derived.Test.YtojkpenjeglipaaVX
import Derived.Test.YtojkpenjeglipaaPrim
import Derived.Test.YtojkpenjeglipaaYD1
set_option linter.unusedVariables false
set_option linter.unusedSimpArgs false
namespace Go.Ax
attribute [local irreducible] xexec xops xpre xrun xacc thenX inBlockX RetK XLoop upd ev u0 frzA frz asRows binK mmD bnd okAll fillP fillOk rowsOf toDs frz1 pack cutV tokC tokArgs
variable {st : List Content}

def d_syntax_words  : (List ByteArray) :=
  [(⟨#[97, 110, 100]⟩ : ByteArray), (⟨#[111, 114]⟩ : ByteArray), (⟨#[110, 111, 116]⟩ : ByteArray), (⟨#[116, 114, 117, 101]⟩ : ByteArray), (⟨#[102, 97, 108, 115, 101]⟩ : ByteArray), (⟨#[108, 101, 116]⟩ : ByteArray), (⟨#[115, 101, 116]⟩ : ByteArray), (⟨#[105, 110, 115, 101, 114, 116]⟩ : ByteArray), (⟨#[117, 112, 100, 97, 116, 101]⟩ : ByteArray), (⟨#[100, 101, 108, 101, 116, 101]⟩ : ByteArray), (⟨#[102, 111, 114]⟩ : ByteArray), (⟨#[105, 110]⟩ : ByteArray), (⟨#[119, 104, 101, 114, 101]⟩ : ByteArray), (⟨#[108, 105, 109, 105, 116]⟩ : ByteArray), (⟨#[105, 102]⟩ : ByteArray), (⟨#[101, 108, 115, 101]⟩ : ByteArray), (⟨#[101, 109, 105, 116]⟩ : ByteArray), (⟨#[97, 98, 111, 114, 116]⟩ : ByteArray), (⟨#[114, 101, 112, 108, 121]⟩ : ByteArray), (⟨#[99, 111, 117, 110, 116]⟩ : ByteArray), (⟨#[115, 117, 109]⟩ : ByteArray), (⟨#[109, 105, 110]⟩ : ByteArray), (⟨#[109, 97, 120]⟩ : ByteArray), (⟨#[105, 110, 116]⟩ : ByteArray), (⟨#[116, 101, 120, 116]⟩ : ByteArray), (⟨#[98, 111, 111, 108]⟩ : ByteArray), (⟨#[116, 97, 98, 108, 101]⟩ : ByteArray), (⟨#[115, 116, 114, 101, 97, 109]⟩ : ByteArray), (⟨#[119, 105, 110, 100, 111, 119]⟩ : ByteArray), (⟨#[115, 105, 110, 107]⟩ : ByteArray), (⟨#[112, 114, 111, 99]⟩ : ByteArray), (⟨#[107, 101, 121]⟩ : ByteArray), (⟨#[117, 110, 105, 113, 117, 101]⟩ : ByteArray), (⟨#[105, 110, 100, 101, 120]⟩ : ByteArray), (⟨#[112, 97, 114, 116, 115]⟩ : ByteArray), (⟨#[98, 121]⟩ : ByteArray), (⟨#[111, 110]⟩ : ByteArray), (⟨#[102, 114, 111, 109]⟩ : ByteArray), (⟨#[97, 116]⟩ : ByteArray), (⟨#[102, 117, 101, 108]⟩ : ByteArray), (⟨#[116, 117, 112, 108, 101, 115]⟩ : ByteArray), (⟨#[98, 97, 116, 99, 104, 101, 115]⟩ : ByteArray), (⟨#[115, 108, 105, 100, 101]⟩ : ByteArray)]
set_option maxRecDepth 100000 in
set_option maxHeartbeats 4000000 in
theorem c_syntax_words  {r : (List ByteArray)} (hr : d_syntax_words = r) {K : PV → List Content → Prop} (h : K (.d (.sl (List.map rS r))) st) : ACalls PR n_syntax_words [] st K := by
  refine ACalls.of F_syntax_words (Nat.le_of_ble_eq_true rfl) fun hwf => ?_
  rw [args0_0]
  refine entry_nil ?_
  unfold x_syntax_words
  rw [d_syntax_words] at hr
  refine x_seq ?_
  refine x_region ?_
  unfold x_syntax_words_r0
  refine o_move e_c ?_
  refine run_nil ?_
  refine k_then ?_
  refine x_seq ?_
  refine x_region ?_
  unfold x_syntax_words_r1
  refine o_slice (rows := List.map rS [(⟨#[97, 110, 100]⟩ : ByteArray), (⟨#[111, 114]⟩ : ByteArray), (⟨#[110, 111, 116]⟩ : ByteArray), (⟨#[116, 114, 117, 101]⟩ : ByteArray), (⟨#[102, 97, 108, 115, 101]⟩ : ByteArray), (⟨#[108, 101, 116]⟩ : ByteArray), (⟨#[115, 101, 116]⟩ : ByteArray), (⟨#[105, 110, 115, 101, 114, 116]⟩ : ByteArray), (⟨#[117, 112, 100, 97, 116, 101]⟩ : ByteArray), (⟨#[100, 101, 108, 101, 116, 101]⟩ : ByteArray), (⟨#[102, 111, 114]⟩ : ByteArray), (⟨#[105, 110]⟩ : ByteArray), (⟨#[119, 104, 101, 114, 101]⟩ : ByteArray), (⟨#[108, 105, 109, 105, 116]⟩ : ByteArray), (⟨#[105, 102]⟩ : ByteArray), (⟨#[101, 108, 115, 101]⟩ : ByteArray), (⟨#[101, 109, 105, 116]⟩ : ByteArray), (⟨#[97, 98, 111, 114, 116]⟩ : ByteArray), (⟨#[114, 101, 112, 108, 121]⟩ : ByteArray), (⟨#[99, 111, 117, 110, 116]⟩ : ByteArray), (⟨#[115, 117, 109]⟩ : ByteArray), (⟨#[109, 105, 110]⟩ : ByteArray), (⟨#[109, 97, 120]⟩ : ByteArray), (⟨#[105, 110, 116]⟩ : ByteArray), (⟨#[116, 101, 120, 116]⟩ : ByteArray), (⟨#[98, 111, 111, 108]⟩ : ByteArray), (⟨#[116, 97, 98, 108, 101]⟩ : ByteArray), (⟨#[115, 116, 114, 101, 97, 109]⟩ : ByteArray), (⟨#[119, 105, 110, 100, 111, 119]⟩ : ByteArray), (⟨#[115, 105, 110, 107]⟩ : ByteArray), (⟨#[112, 114, 111, 99]⟩ : ByteArray), (⟨#[107, 101, 121]⟩ : ByteArray), (⟨#[117, 110, 105, 113, 117, 101]⟩ : ByteArray), (⟨#[105, 110, 100, 101, 120]⟩ : ByteArray), (⟨#[112, 97, 114, 116, 115]⟩ : ByteArray), (⟨#[98, 121]⟩ : ByteArray), (⟨#[111, 110]⟩ : ByteArray), (⟨#[102, 114, 111, 109]⟩ : ByteArray), (⟨#[97, 116]⟩ : ByteArray), (⟨#[102, 117, 101, 108]⟩ : ByteArray), (⟨#[116, 117, 112, 108, 101, 115]⟩ : ByteArray), (⟨#[98, 97, 116, 99, 104, 101, 115]⟩ : ByteArray), (⟨#[115, 108, 105, 100, 101]⟩ : ByteArray)]) ((rw_cons e_c pc_d (td_cons f_d td_nil) rfl (rw_cons e_c pc_d (td_cons f_d td_nil) rfl (rw_cons e_c pc_d (td_cons f_d td_nil) rfl (rw_cons e_c pc_d (td_cons f_d td_nil) rfl (rw_cons e_c pc_d (td_cons f_d td_nil) rfl (rw_cons e_c pc_d (td_cons f_d td_nil) rfl (rw_cons e_c pc_d (td_cons f_d td_nil) rfl (rw_cons e_c pc_d (td_cons f_d td_nil) rfl (rw_cons e_c pc_d (td_cons f_d td_nil) rfl (rw_cons e_c pc_d (td_cons f_d td_nil) rfl (rw_cons e_c pc_d (td_cons f_d td_nil) rfl (rw_cons e_c pc_d (td_cons f_d td_nil) rfl (rw_cons e_c pc_d (td_cons f_d td_nil) rfl (rw_cons e_c pc_d (td_cons f_d td_nil) rfl (rw_cons e_c pc_d (td_cons f_d td_nil) rfl (rw_cons e_c pc_d (td_cons f_d td_nil) rfl (rw_cons e_c pc_d (td_cons f_d td_nil) rfl (rw_cons e_c pc_d (td_cons f_d td_nil) rfl (rw_cons e_c pc_d (td_cons f_d td_nil) rfl (rw_cons e_c pc_d (td_cons f_d td_nil) rfl (rw_cons e_c pc_d (td_cons f_d td_nil) rfl (rw_cons e_c pc_d (td_cons f_d td_nil) rfl (rw_cons e_c pc_d (td_cons f_d td_nil) rfl (rw_cons e_c pc_d (td_cons f_d td_nil) rfl (rw_cons e_c pc_d (td_cons f_d td_nil) rfl (rw_cons e_c pc_d (td_cons f_d td_nil) rfl (rw_cons e_c pc_d (td_cons f_d td_nil) rfl (rw_cons e_c pc_d (td_cons f_d td_nil) rfl (rw_cons e_c pc_d (td_cons f_d td_nil) rfl (rw_cons e_c pc_d (td_cons f_d td_nil) rfl (rw_cons e_c pc_d (td_cons f_d td_nil) rfl (rw_cons e_c pc_d (td_cons f_d td_nil) rfl (rw_cons e_c pc_d (td_cons f_d td_nil) rfl (rw_cons e_c pc_d (td_cons f_d td_nil) rfl (rw_cons e_c pc_d (td_cons f_d td_nil) rfl (rw_cons e_c pc_d (td_cons f_d td_nil) rfl (rw_cons e_c pc_d (td_cons f_d td_nil) rfl (rw_cons e_c pc_d (td_cons f_d td_nil) rfl (rw_cons e_c pc_d (td_cons f_d td_nil) rfl (rw_cons e_c pc_d (td_cons f_d td_nil) rfl (rw_cons e_c pc_d (td_cons f_d td_nil) rfl (rw_cons e_c pc_d (td_cons f_d td_nil) rfl (rw_cons e_c pc_d (td_cons f_d td_nil) rfl rw_nil)))))))))))))))))))))))))))))))))))))))))))) ?_
  refine o_move (e_t e_hit) ?_
  refine run_nil ?_
  refine k_then ?_
  refine x_ret ?_
  subst hr
  exact retK (r_tmp e_hit r_nil) (p_one fz_ex v_d) (cutS_wf hwf) h

def d_slices_Index_string_string_l0b (p0 : (List ByteArray)) (p1 : ByteArray) (rec_l_0 : Int → Option Int) (v2 : Int) : Option Int :=
  (bif (decide (v2 < (p0.length : Int))) then ((idxL p0 v2).bind fun v3 => (bif (decide (p1 = v3)) then some v2 else rec_l_0 (IntKind.wrap .i64 (v2 + (1 : Int))))) else some (-1))
def d_slices_Index_string_string_l0 (p0 : (List ByteArray)) (p1 : ByteArray) : Nat → Int → Option Int
  | 0, _ => none
  | m + 1, v2 => d_slices_Index_string_string_l0b p0 p1 (d_slices_Index_string_string_l0 p0 p1 m) v2
def d_slices_Index_string_string (n : Nat) (p0 : (List ByteArray)) (p1 : ByteArray) : Option Int :=
  (d_slices_Index_string_string_l0 p0 p1 n (0 : Int))
set_option maxRecDepth 100000 in
set_option maxHeartbeats 4000000 in
theorem c_slices_Index_string_string (n : Nat) (p0 : (List ByteArray)) (p1 : ByteArray) {r : Int} (hr : d_slices_Index_string_string n p0 p1 = some r) {K : PV → List Content → Prop} (h : K (.d (.int .i64 r)) st) : ACalls PR n_slices_Index_string_string [(.d (.sl (List.map rS p0))), (.d (.str p1))] st K := by
  refine ACalls.of F_slices_Index_string_string (Nat.le_of_ble_eq_true rfl) fun hwf => ?_
  rw [args0_2]
  refine entry_nil ?_
  unfold x_slices_Index_string_string
  rw [d_slices_Index_string_string] at hr
  refine x_seq ?_
  refine x_region ?_
  unfold x_slices_Index_string_string_r0
  refine o_move e_c ?_
  refine run_nil ?_
  refine k_then ?_
  refine x_seq ?_
  refine x_seq ?_
  refine x_region ?_
  unfold x_slices_Index_string_string_r1
  refine o_move (e_t (e_miss rfl e_hit)) ?_
  refine o_lenL (row := rS) (ar_of (e_t e_hit) ar_d) ?_
  refine o_move e_c ?_
  refine run_nil ?_
  refine k_then ?_
  refine x_block ?_
  refine x_loopL (fun m f st' => ∃ (v2 : Int), d_slices_Index_string_string_l0 p0 p1 m v2 = some r ∧ f 0 = (.d (.sl (List.map rS p0))) ∧ f 1 = (.d (.str p1)) ∧ f 7 = (.d (.int .i64 (p0.length : Int))) ∧ f 8 = (.d (.int .i64 v2)) ∧ st' = st ++ []) n (Ghost.refl _) ⟨(0 : Int), hr, (e_m4 rfl e_hit), (e_m4 rfl (e_miss rfl e_hit)), (e_miss rfl e_hit), e_hit, rfl⟩ ?_
  rintro m f st' ⟨v2, hr, h0, h1, h7, h8, rfl⟩
  cases m with
  | zero => cases hr
  | succ m_0 =>
    rw [d_slices_Index_string_string_l0] at hr
    generalize hrec_0 : d_slices_Index_string_string_l0 p0 p1 m_0 = rec_l_0 at hr
    rw [d_slices_Index_string_string_l0b] at hr
    unfold x_slices_Index_string_string_l7
    refine x_seq ?_
    refine x_region ?_
    unfold x_slices_Index_string_string_r2
    refine o_bin (e_t h8) (e_t h7) (b_lss ?_)
    refine run_nil ?_
    refine k_then ?_
    refine x_seq ?_
    refine x_condL (e_t e_hit) hr (fun hr => ?_) (fun hr => ?_)
    rotate_left
    · refine x_exit ?_
      refine k_thenE ?_
      refine k_thenE ?_
      refine k_inE ?_
      refine k_then ?_
      refine x_seq ?_
      refine x_region ?_
      unfold x_slices_Index_string_string_r8
      refine o_move e_c ?_
      refine run_nil ?_
      refine k_then ?_
      refine x_ret ?_
      cases hr
      exact retK (r_tmp e_hit r_nil) (p_one fz_d v_d) (cutS_wf hwf) h
    refine x_skip ?_
    refine k_then ?_
    refine x_seq ?_
    refine x_block ?_
    refine x_seq ?_
    refine x_region ?_
    unfold x_slices_Index_string_string_r3
    refine o_move (e_t (e_miss rfl h8)) ?_
    refine o_move (e_t e_hit) ?_
    refine run_nil ?_
    refine k_then ?_
    refine x_seq ?_
    refine x_region ?_
    unfold x_slices_Index_string_string_r4
    refine o_move (e_t (e_m2 rfl (e_miss rfl h1))) ?_
    refine o_move (e_t (e_m4 rfl h0)) ?_
    refine o_move (e_t (e_m2 rfl e_hit)) ?_
    refine o_idxL (row := rS) (ar_of (e_t (e_miss rfl e_hit)) ar_d) (e_t e_hit) hr (fun _ => rfl) (fun _ => rfl) (fun v3 hr => ?_)
    refine o_loadD (e_t e_hit) (by exact rfl) ?_
    refine o_bin (e_t (e_m4 rfl e_hit)) (e_t e_hit) (b_seql ?_)
    refine run_nil ?_
    refine k_then ?_
    refine x_condL (e_t e_hit) hr (fun hr => ?_) (fun hr => ?_)
    rotate_left
    · refine x_skip ?_
      refine k_inN ?_
      refine k_then ?_
      refine x_region ?_
      unfold x_slices_Index_string_string_r6
      refine o_bin (e_t (e_m4 rfl (e_m4 rfl (e_miss rfl h8)))) e_c (b_add ?_)
      refine o_move (e_t e_hit) ?_
      refine run_nil ?_
      refine k_then ?_
      exact ⟨m_0, _, Nat.lt_succ_self m_0, Ghost.refl _, (IntKind.wrap .i64 (v2 + (1 : Int))), (by rw [hrec_0]; exact hr), (e_m4 rfl (e_m4 rfl (e_m2 rfl (e_miss rfl h0)))), (e_m4 rfl (e_m4 rfl (e_m2 rfl (e_miss rfl h1)))), (e_m4 rfl (e_m4 rfl (e_m2 rfl (e_miss rfl h7)))), e_hit, rfl⟩
    refine x_seq ?_
    refine x_region ?_
    unfold x_slices_Index_string_string_r5
    refine o_move (e_t (e_m4 rfl (e_m2 rfl e_hit))) ?_
    refine o_move (e_t e_hit) ?_
    refine run_nil ?_
    refine k_then ?_
    refine x_ret ?_
    refine k_inR ?_
    refine k_thenR ?_
    refine k_thenR ?_
    refine k_inR ?_
    refine k_thenR ?_
    cases hr
    exact retK (r_tmp e_hit r_nil) (p_one fz_d v_d) (cutS_wf hwf) h

def d_slices_Contains_string_string (n : Nat) (p0 : (List ByteArray)) (p1 : ByteArray) : Option Bool :=
  ((d_slices_Index_string_string n p0 p1).bind fun v2 => some (decide ((0 : Int) ≤ v2)))
set_option maxRecDepth 100000 in
set_option maxHeartbeats 4000000 in
theorem c_slices_Contains_string_string (n : Nat) (p0 : (List ByteArray)) (p1 : ByteArray) {r : Bool} (hr : d_slices_Contains_string_string n p0 p1 = some r) {K : PV → List Content → Prop} (h : K (.d (.bool r)) st) : ACalls PR n_slices_Contains_string_string [(.d (.sl (List.map rS p0))), (.d (.str p1))] st K := by
  refine ACalls.of F_slices_Contains_string_string (Nat.le_of_ble_eq_true rfl) fun hwf => ?_
  rw [args0_2]
  refine entry_nil ?_
  unfold x_slices_Contains_string_string
  rw [d_slices_Contains_string_string] at hr
  refine x_seq ?_
  refine x_region ?_
  unfold x_slices_Contains_string_string_r0
  refine o_move e_c ?_
  refine run_nil ?_
  refine k_then ?_
  refine x_seq ?_
  refine x_region ?_
  unfold x_slices_Contains_string_string_r1
  refine o_move (e_t (e_miss rfl e_hit)) ?_
  refine o_move (e_t (e_m2 rfl (e_miss rfl e_hit))) ?_
  obtain ⟨v2, hc_v2, hr⟩ := bind_some hr
  refine o_call (a_cons (e_t (e_miss rfl e_hit)) fz_d (a_cons (e_t e_hit) fz_d a_nil)) ?_
  refine c_slices_Index_string_string n p0 p1 hc_v2 ?_
  refine o_bin (e_t e_hit) e_c (b_geqL ?_)
  refine o_move (e_t e_hit) ?_
  refine run_nil ?_
  refine k_then ?_
  refine x_ret ?_
  cases hr
  exact retK (r_tmp e_hit r_nil) (p_one fz_d v_d) (cutS_wf hwf) h

def d_syntax_Reserved (n : Nat) (p0 : ByteArray) : Option Bool :=
  ((d_slices_Contains_string_string n (d_syntax_words) p0).bind fun v1 => some v1)
set_option maxRecDepth 100000 in
set_option maxHeartbeats 4000000 in
theorem c_syntax_Reserved (n : Nat) (p0 : ByteArray) {r : Bool} (hr : d_syntax_Reserved n p0 = some r) {K : PV → List Content → Prop} (h : K (.d (.bool r)) st) : ACalls PR n_syntax_Reserved [(.d (.str p0))] st K := by
  refine ACalls.of F_syntax_Reserved (Nat.le_of_ble_eq_true rfl) fun hwf => ?_
  rw [args0_1]
  refine entry_nil ?_
  unfold x_syntax_Reserved
  rw [d_syntax_Reserved] at hr
  refine x_seq ?_
  refine x_region ?_
  unfold x_syntax_Reserved_r0
  refine o_move e_c ?_
  refine run_nil ?_
  refine k_then ?_
  refine x_seq ?_
  refine x_region ?_
  unfold x_syntax_Reserved_r1
  refine o_call a_nil ?_
  refine c_syntax_words rfl ?_
  refine o_move (e_t (e_m2 rfl e_hit)) ?_
  obtain ⟨v1, hc_v1, hr⟩ := bind_some hr
  refine o_call (a_cons (e_t (e_miss rfl e_hit)) fz_d (a_cons (e_t e_hit) fz_d a_nil)) ?_
  refine c_slices_Contains_string_string n (d_syntax_words) p0 hc_v1 ?_
  refine o_move (e_t e_hit) ?_
  refine run_nil ?_
  refine k_then ?_
  refine x_ret ?_
  cases hr
  exact retK (r_tmp e_hit r_nil) (p_one fz_d v_d) (cutS_wf hwf) h

def d_syntax_Free (n : Nat) (p0 : (List ByteArray)) : Option Bool :=
  ((d_schema_Named n p0).bind fun v1 => (bif v1 then ((d_slices_ContainsFunc_string_string n p0 (fun (a0 : ByteArray) => d_syntax_Reserved n a0)).bind fun v2 => some (!v2)) else some false))
set_option maxRecDepth 100000 in
set_option maxHeartbeats 4000000 in
theorem c_syntax_Free (n : Nat) (p0 : (List ByteArray)) {r : Bool} (hr : d_syntax_Free n p0 = some r) {K : PV → List Content → Prop} (h : K (.d (.bool r)) st) : ACalls PR n_syntax_Free [(.d (.sl (List.map rS p0)))] st K := by
  refine ACalls.of F_syntax_Free (Nat.le_of_ble_eq_true rfl) fun hwf => ?_
  rw [args0_1]
  refine entry_nil ?_
  unfold x_syntax_Free
  rw [d_syntax_Free] at hr
  refine x_seq ?_
  refine x_region ?_
  unfold x_syntax_Free_r0
  refine o_move e_c ?_
  refine run_nil ?_
  refine k_then ?_
  refine x_seq ?_
  refine x_region ?_
  unfold x_syntax_Free_r1
  refine run_app ?_
  unfold x_syntax_Free_r1s0
  refine o_move (e_t (e_miss rfl e_hit)) ?_
  obtain ⟨v1, hc_v1, hr⟩ := bind_some hr
  refine o_call (a_cons (e_t e_hit) fz_d a_nil) ?_
  refine c_schema_Named n p0 hc_v1 ?_
  refine o_move (e_t e_hit) ?_
  refine g_splitL e_hit hr (fun hr => ?_) (fun hr => ?_)
  rotate_left
  · refine g_skip e_hit ?_
    refine g_skip (e_miss rfl e_hit) ?_
    refine g_skip (e_m2 rfl e_hit) ?_
    refine o_pick_f (e_t (e_m2 rfl (e_miss rfl e_hit))) e_c ?_
    refine run_nil ?_
    unfold x_syntax_Free_r1s1
    refine o_move (e_t e_hit) ?_
    refine run_nil ?_
    refine k_then ?_
    refine x_ret ?_
    cases hr
    exact retK (r_tmp e_hit r_nil) (p_one fz_d v_d) (cutS_wf hwf) h
  refine g_run e_hit ?_
  refine o_move (e_t (e_m4 rfl (e_miss rfl e_hit))) ?_
  refine g_run (e_miss rfl e_hit) ?_
  obtain ⟨v2, hc_v2, hr⟩ := bind_some hr
  refine o_call (a_cons (e_t e_hit) fz_d (a_cons e_c fz_fn a_nil)) ?_
  refine c_slices_ContainsFunc_string_string n p0 (fun (a0 : ByteArray) => d_syntax_Reserved n a0) (fun a0 {_} hr {_ _} hk => c_syntax_Reserved n a0 hr hk) (fun _ => rfl) hc_v2 ?_
  refine g_run (e_m2 rfl e_hit) ?_
  refine o_not (e_t e_hit) ?_
  refine o_pick_t (e_t (e_m2 rfl (e_miss rfl e_hit))) (e_t e_hit) ?_
  refine run_nil ?_
  unfold x_syntax_Free_r1s1
  refine o_move (e_t e_hit) ?_
  refine run_nil ?_
  refine k_then ?_
  refine x_ret ?_
  cases hr
  exact retK (r_tmp e_hit r_nil) (p_one fz_d v_d) (cutS_wf hwf) h

def d_syntax_heads_j1 (v14 : Bool) : Option Bool :=
  some v14
def d_syntax_heads_j0 (p0 : T_api_Proc) (n : Nat) (v2 : (List ByteArray)) (v12 : Bool) : Option Bool :=
  (bif v12 then some false else (bif (!decide (p0.From = (⟨#[]⟩ : ByteArray))) then ((d_syntax_Free n ([p0.From])).bind fun v13 => (bif v13 then (bif (decide ((v2.length : Int) = (0 : Int))) then (d_syntax_heads_j1 (decide (p0.At = (⟨#[]⟩ : ByteArray)))) else (d_syntax_heads_j1 false)) else (d_syntax_heads_j1 false))) else (bif (decide (p0.At = (⟨#[]⟩ : ByteArray))) then some true else ((d_slices_Contains_string_string n v2 p0.At).bind fun v15 => some v15))))
def d_syntax_heads_j4 (p0 : T_api_Proc) (n : Nat) (v2 : (List ByteArray)) (v11 : Bool) : Option Bool :=
  (bif v11 then (d_syntax_heads_j0 p0 n v2 true) else (d_syntax_heads_j0 p0 n v2 (!(d_syntax_within p0.Fuel (1 : Int) (2000 : Int)))))
def d_syntax_heads_j3 (p0 : T_api_Proc) (n : Nat) (v2 : (List ByteArray)) (v9 : Bool) : Option Bool :=
  (bif v9 then (d_syntax_heads_j4 p0 n v2 true) else ((unlikeL v2).bind fun v10 => (d_syntax_heads_j4 p0 n v2 (!v10))))
def d_syntax_heads_j2 (p0 : T_api_Proc) (n : Nat) (v2 : (List ByteArray)) (v7 : Bool) : Option Bool :=
  (bif v7 then (d_syntax_heads_j3 p0 n v2 true) else ((d_syntax_Free n v2).bind fun v8 => (d_syntax_heads_j3 p0 n v2 (!v8))))
def d_syntax_heads_l0b (p0 : T_api_Proc) (n : Nat) (rec_l_0 : (List ByteArray) → Int → Option Bool) (v2 : (List ByteArray)) (v3 : Int) : Option Bool :=
  (bif (decide (v3 < (p0.Params.length : Int))) then ((idxL p0.Params v3).bind fun v4 => (bif (!(d_syntax_within v4.Kind (1 : Int) (3 : Int))) then some false else ((appL 16 v2 ([v4.Name])).bind fun v5 => rec_l_0 v5 (IntKind.wrap .i64 (v3 + (1 : Int)))))) else ((d_syntax_Free n ([p0.Name])).bind fun v6 => (bif (!v6) then (d_syntax_heads_j2 p0 n v2 true) else (d_syntax_heads_j2 p0 n v2 (decide ((8 : Int) < (v2.length : Int)))))))
def d_syntax_heads_l0 (p0 : T_api_Proc) (n : Nat) : Nat → (List ByteArray) → Int → Option Bool
  | 0, _, _ => none
  | m + 1, v2, v3 => d_syntax_heads_l0b p0 n (d_syntax_heads_l0 p0 n m) v2 v3
def d_syntax_heads (n : Nat) (p0 : T_api_Proc) : Option Bool :=
  (d_syntax_heads_l0 p0 n n ([]) (0 : Int))
set_option maxRecDepth 100000 in
set_option maxHeartbeats 4000000 in
theorem c_syntax_heads (n : Nat) (p0 : T_api_Proc) {r : Bool} (hr : d_syntax_heads n p0 = some r) {K : PV → List Content → Prop} (h : K (.d (.bool r)) st) : ACalls PR n_syntax_heads [(.agg [(.d (.str p0.Name)), (.d (.str p0.From)), (.d (.str p0.At)), (.d (.int .i64 p0.Fuel)), (.d (.sl (List.map T_api_Column.row p0.Params))), (.d (.sl (List.map T_api_Stmt.row p0.Body)))])] st K := by
  refine ACalls.of F_syntax_heads (Nat.le_of_ble_eq_true rfl) fun hwf => ?_
  rw [args0_1]
  refine entry_nil ?_
  unfold x_syntax_heads
  rw [d_syntax_heads] at hr
  refine x_seq ?_
  refine x_region ?_
  unfold x_syntax_heads_r0
  refine o_box (k := 0) rfl rfl (e_t e_hit) pc_agg (by exact rfl) ?_
  refine o_move e_c ?_
  refine run_nil ?_
  refine k_then ?_
  refine x_seq ?_
  refine x_region ?_
  unfold x_syntax_heads_r1
  refine o_move e_c ?_
  refine run_nil ?_
  refine k_then ?_
  refine x_seq ?_
  refine x_seq ?_
  refine x_region ?_
  unfold x_syntax_heads_r2
  refine o_fa (e_t (e_m2 rfl e_hit)) (by exact rfl) ?_
  refine o_load (e_t e_hit) ((g_ext rfl 0).trans rfl) (by exact rfl) ?_
  refine o_lenL (row := T_api_Column.row) (ar_of (e_t e_hit) ar_d) ?_
  refine o_move e_c ?_
  refine run_nil ?_
  refine k_then ?_
  refine x_block ?_
  refine x_loopL (fun m f st' => ∃ (v2 : (List ByteArray)), ∃ (v3 : Int), ∃ (w1 : Nat), d_syntax_heads_l0 p0 n m v2 v3 = some r ∧ f 1 = (.ptr (st.length + 0) 0) ∧ f 3 = (.own (st.length + 1) w1) ∧ f 7 = (.d (.sl (List.map T_api_Column.row p0.Params))) ∧ f 8 = (.d (.int .i64 (p0.Params.length : Int))) ∧ f 9 = (.d (.int .i64 v3)) ∧ st' = st ++ [(.box [(.d (.str p0.Name)), (.d (.str p0.From)), (.d (.str p0.At)), (.d (.int .i64 p0.Fuel)), (.d (.sl (List.map T_api_Column.row p0.Params))), (.d (.sl (List.map T_api_Stmt.row p0.Body)))]), (.row ty_string w1 (List.map rS v2))]) n (gh_adopt (k := 1) 3 (List.map rS ([])) ty_string 1 rfl rfl (e_m4 rfl e_hit) rfl (rowlen (fun _ => rfl))) ⟨[], (0 : Int), 0, hr, (e_m4 rfl (e_m2 rfl (e_miss rfl e_hit))), e_hit, (e_m2 rfl (e_miss rfl e_hit)), (e_m2 rfl e_hit), (e_miss rfl e_hit), rfl⟩ ?_
  rintro m f st' ⟨v2, v3, w1, hr, h1, h3, h7, h8, h9, rfl⟩
  cases m with
  | zero => cases hr
  | succ m_0 =>
    rw [d_syntax_heads_l0] at hr
    generalize hrec_0 : d_syntax_heads_l0 p0 n m_0 = rec_l_0 at hr
    rw [d_syntax_heads_l0b] at hr
    unfold x_syntax_heads_l9
    refine x_seq ?_
    refine x_region ?_
    unfold x_syntax_heads_r3
    refine o_bin (e_t h9) (e_t h8) (b_lss ?_)
    refine run_nil ?_
    refine k_then ?_
    refine x_seq ?_
    refine x_condL (e_t e_hit) hr (fun hr => ?_) (fun hr => ?_)
    · refine x_skip ?_
      refine k_then ?_
      refine x_seq ?_
      refine x_block ?_
      refine x_seq ?_
      refine x_region ?_
      unfold x_syntax_heads_r4
      refine o_idxL (row := T_api_Column.row) (ar_of (e_t (e_miss rfl h7)) ar_d) (e_t (e_miss rfl h9)) hr T_api_Column.row_eq (fun _ => rfl) (fun v4 hr => ?_)
      refine o_loadDA (e_t e_hit) (Nat.le_of_ble_eq_true rfl) (by exact rfl) ?_
      refine o_alloc (k := 2) rfl rfl ?_
      refine o_store (e_t e_hit) ((g_ext rfl 2).trans rfl) (e_t (e_miss rfl e_hit)) pc_agg rfl (Nat.le_of_ble_eq_true rfl) (by exact rfl) (cells' := [(.d (.str v4.Name)), (.d (.int .i64 v4.Kind))]) (by exact rfl) (s_ext rfl _ _) ?_
      refine run_nil ?_
      refine k_then ?_
      refine x_seq ?_
      refine x_seq ?_
      refine x_region ?_
      unfold x_syntax_heads_r5
      refine o_fa (e_t e_hit) (by exact rfl) ?_
      refine o_load (e_t e_hit) ((g_ext rfl 2).trans rfl) (by exact rfl) ?_
      refine o_call (a_cons (e_t e_hit) fz_d (a_cons e_c fz_d (a_cons e_c fz_d a_nil))) ?_
      refine c_syntax_within v4.Kind (1 : Int) (3 : Int) rfl ?_
      refine o_not (e_t e_hit) ?_
      refine run_nil ?_
      refine k_then ?_
      refine x_condL (e_t e_hit) hr (fun hr => ?_) (fun hr => ?_)
      · refine x_seq ?_
        refine x_region ?_
        unfold x_syntax_heads_r6
        refine o_move e_c ?_
        refine run_nil ?_
        refine k_then ?_
        refine x_ret ?_
        refine k_thenR ?_
        refine k_inR ?_
        refine k_thenR ?_
        refine k_thenR ?_
        refine k_inR ?_
        refine k_thenR ?_
        cases hr
        exact retK (r_tmp e_hit r_nil) (p_one fz_d v_d) (cutS_wf hwf) h
      refine x_skip ?_
      refine k_then ?_
      refine x_region ?_
      unfold x_syntax_heads_r7
      refine o_move (e_t (e_m4 rfl (e_m4 rfl h3))) ?_
      refine o_fa (e_t (e_m4 rfl (e_miss rfl e_hit))) (by exact rfl) ?_
      refine o_load (e_t e_hit) ((g_ext rfl 2).trans rfl) (by exact rfl) ?_
      refine o_slice (rows := List.map rS [v4.Name]) ((rw_cons (e_t e_hit) pc_d (td_cons f_d td_nil) rfl rw_nil)) ?_
      refine o_appOL (row := rS) (ar_of (e_t e_hit) ar_ex) (fun _ => rfl) (fun _ => rfl) (e_t (e_m2 rfl (e_miss rfl e_hit))) ((g_ext rfl 1).trans rfl) (fun _ => (s_ext rfl _ _)) hr (fun v5 hr => ?_)
      refine o_move (e_t e_hit) ?_
      refine run_nil ?_
      refine k_inN ?_
      refine k_then ?_
      refine x_region ?_
      unfold x_syntax_heads_r8
      refine o_bin (e_t (e_m4 rfl (e_m4 rfl (e_m4 rfl (e_m2 rfl h9))))) e_c (b_add ?_)
      refine o_move (e_t e_hit) ?_
      refine run_nil ?_
      refine k_then ?_
      exact ⟨m_0, _, Nat.lt_succ_self m_0, Ghost.cut _ (st.length + 2) (Nat.le_add_right _ _), v5, (IntKind.wrap .i64 (v3 + (1 : Int))), (w1 + 1), (by rw [hrec_0]; exact hr), ((congrArg (cutV _) (e_m4 rfl (e_m4 rfl (e_m4 rfl (e_m4 rfl h1))))).trans (by simp [cutV, belowB])), ((congrArg (cutV _) (e_m2 rfl e_hit)).trans (by simp [cutV, belowB])), ((congrArg (cutV _) (e_m4 rfl (e_m4 rfl (e_m4 rfl (e_m4 rfl h7))))).trans (v_d)), ((congrArg (cutV _) (e_m4 rfl (e_m4 rfl (e_m4 rfl (e_m4 rfl h8))))).trans (v_d)), ((congrArg (cutV _) e_hit).trans (v_d)), (cut_keep (l0 := [(.box [(.d (.str p0.Name)), (.d (.str p0.From)), (.d (.str p0.At)), (.d (.int .i64 p0.Fuel)), (.d (.sl (List.map T_api_Column.row p0.Params))), (.d (.sl (List.map T_api_Stmt.row p0.Body)))]), (.row ty_string (w1 + 1) (List.map rS v5))]) (l1 := _) hwf rfl rfl rfl)⟩
    refine x_exit ?_
    refine k_thenE ?_
    refine k_thenE ?_
    refine k_inE ?_
    refine k_then ?_
    refine x_seq ?_
    refine x_join (fun f st' => ∃ (v12 : Bool), d_syntax_heads_j0 p0 n v2 v12 = some r ∧ f 1 = (.ptr (st.length + 0) 0) ∧ f 3 = (.own (st.length + 1) w1) ∧ f 48 = (.d (.bool v12)) ∧ st' = st ++ [(.box [(.d (.str p0.Name)), (.d (.str p0.From)), (.d (.str p0.At)), (.d (.int .i64 p0.Fuel)), (.d (.sl (List.map T_api_Column.row p0.Params))), (.d (.sl (List.map T_api_Stmt.row p0.Body)))]), (.row ty_string w1 (List.map rS v2))]) ?_ ?_
    · refine x_region ?_
      unfold x_syntax_heads_r10
      refine run_join (fun f st' => ∃ (v7 : Bool), d_syntax_heads_j2 p0 n v2 v7 = some r ∧ f 1 = (.ptr (st.length + 0) 0) ∧ f 3 = (.own (st.length + 1) w1) ∧ f 32 = (.d (.bool v7)) ∧ st' = st ++ [(.box [(.d (.str p0.Name)), (.d (.str p0.From)), (.d (.str p0.At)), (.d (.int .i64 p0.Fuel)), (.d (.sl (List.map T_api_Column.row p0.Params))), (.d (.sl (List.map T_api_Stmt.row p0.Body)))]), (.row ty_string w1 (List.map rS v2))]) ?_ ?_
      · unfold x_syntax_heads_r10s0
        refine o_fa (e_t (e_miss rfl h1)) (by exact rfl) ?_
        refine o_load (e_t e_hit) ((g_ext rfl 0).trans rfl) (by exact rfl) ?_
        refine o_slice (rows := List.map rS [p0.Name]) ((rw_cons (e_t e_hit) pc_d (td_cons f_d td_nil) rfl rw_nil)) ?_
        obtain ⟨v6, hc_v6, hr⟩ := bind_some hr
        refine o_call (a_cons (e_t e_hit) fz_ex a_nil) ?_
        refine c_syntax_Free n ([p0.Name]) hc_v6 ?_
        refine o_not (e_t e_hit) ?_
        refine o_move (e_t e_hit) ?_
        refine g_splitL e_hit hr (fun hr => ?_) (fun hr => ?_)
        · refine g_skip e_hit ?_
          refine g_skip (e_miss rfl e_hit) ?_
          refine g_skip (e_m2 rfl e_hit) ?_
          refine o_pick_t (e_t (e_m2 rfl (e_miss rfl e_hit))) e_c ?_
          refine run_nil ?_
          exact ⟨true, hr, (e_m4 rfl (e_m4 rfl (e_m4 rfl h1))), (e_m4 rfl (e_m4 rfl (e_m4 rfl h3))), e_hit, rfl⟩
        refine g_run e_hit ?_
        refine o_move (e_t (e_m4 rfl (e_m4 rfl h3))) ?_
        refine g_run (e_miss rfl e_hit) ?_
        refine o_lenL (row := rS) (ar_of (e_t e_hit) (ar_own ((g_ext rfl 1).trans rfl))) ?_
        refine g_run (e_m2 rfl e_hit) ?_
        refine o_bin (e_t e_hit) e_c (b_gtrL ?_)
        refine o_pick_f (e_t (e_m2 rfl (e_miss rfl e_hit))) (e_t e_hit) ?_
        refine run_nil ?_
        exact ⟨(decide ((8 : Int) < (v2.length : Int))), hr, (e_m4 rfl (e_m4 rfl (e_m4 rfl h1))), (e_m4 rfl (e_m4 rfl (e_m4 rfl h3))), e_hit, rfl⟩
      rintro f st' ⟨v7, hr, h1, h3, h32, rfl⟩
      rw [d_syntax_heads_j2] at hr
      refine run_join (fun f st' => ∃ (v9 : Bool), d_syntax_heads_j3 p0 n v2 v9 = some r ∧ f 1 = (.ptr (st.length + 0) 0) ∧ f 3 = (.own (st.length + 1) w1) ∧ f 37 = (.d (.bool v9)) ∧ st' = st ++ [(.box [(.d (.str p0.Name)), (.d (.str p0.From)), (.d (.str p0.At)), (.d (.int .i64 p0.Fuel)), (.d (.sl (List.map T_api_Column.row p0.Params))), (.d (.sl (List.map T_api_Stmt.row p0.Body)))]), (.row ty_string w1 (List.map rS v2))]) ?_ ?_
      · unfold x_syntax_heads_r10s1
        refine o_move (e_t h32) ?_
        refine g_splitL e_hit hr (fun hr => ?_) (fun hr => ?_)
        · refine g_skip e_hit ?_
          refine g_skip (e_miss rfl e_hit) ?_
          refine g_skip (e_m2 rfl e_hit) ?_
          refine o_pick_t (e_t (e_m2 rfl (e_miss rfl e_hit))) e_c ?_
          refine run_nil ?_
          exact ⟨true, hr, (e_m4 rfl (e_m2 rfl h1)), (e_m4 rfl (e_m2 rfl h3)), e_hit, rfl⟩
        refine g_run e_hit ?_
        refine o_move (e_t (e_m2 rfl h3)) ?_
        refine g_run (e_miss rfl e_hit) ?_
        obtain ⟨v8, hc_v8, hr⟩ := bind_some hr
        refine o_call (a_cons (e_t e_hit) (fz_own ((g_ext rfl 1).trans rfl)) a_nil) ?_
        refine c_syntax_Free n v2 hc_v8 ?_
        refine g_run (e_m2 rfl e_hit) ?_
        refine o_not (e_t e_hit) ?_
        refine o_pick_f (e_t (e_m2 rfl (e_miss rfl e_hit))) (e_t e_hit) ?_
        refine run_nil ?_
        exact ⟨(!v8), hr, (e_m4 rfl (e_m2 rfl h1)), (e_m4 rfl (e_m2 rfl h3)), e_hit, rfl⟩
      rintro f st' ⟨v9, hr, h1, h3, h37, rfl⟩
      rw [d_syntax_heads_j3] at hr
      refine run_join (fun f st' => ∃ (v11 : Bool), d_syntax_heads_j4 p0 n v2 v11 = some r ∧ f 1 = (.ptr (st.length + 0) 0) ∧ f 3 = (.own (st.length + 1) w1) ∧ f 42 = (.d (.bool v11)) ∧ st' = st ++ [(.box [(.d (.str p0.Name)), (.d (.str p0.From)), (.d (.str p0.At)), (.d (.int .i64 p0.Fuel)), (.d (.sl (List.map T_api_Column.row p0.Params))), (.d (.sl (List.map T_api_Stmt.row p0.Body)))]), (.row ty_string w1 (List.map rS v2))]) ?_ ?_
      · unfold x_syntax_heads_r10s2
        refine o_move (e_t h37) ?_
        refine g_splitL e_hit hr (fun hr => ?_) (fun hr => ?_)
        · refine g_skip e_hit ?_
          refine g_skip (e_miss rfl e_hit) ?_
          refine g_skip (e_m2 rfl e_hit) ?_
          refine o_pick_t (e_t (e_m2 rfl (e_miss rfl e_hit))) e_c ?_
          refine run_nil ?_
          exact ⟨true, hr, (e_m4 rfl (e_m2 rfl h1)), (e_m4 rfl (e_m2 rfl h3)), e_hit, rfl⟩
        refine g_run e_hit ?_
        refine o_move (e_t (e_m2 rfl h3)) ?_
        refine g_run (e_miss rfl e_hit) ?_
        obtain ⟨v10, hc_v10, hr⟩ := bind_some hr
        refine o_call (a_cons (e_t e_hit) (fz_own ((g_ext rfl 1).trans rfl)) a_nil) ?_
        refine c_unlikeL v2 hc_v10 ?_
        refine g_run (e_m2 rfl e_hit) ?_
        refine o_not (e_t e_hit) ?_
        refine o_pick_f (e_t (e_m2 rfl (e_miss rfl e_hit))) (e_t e_hit) ?_
        refine run_nil ?_
        exact ⟨(!v10), hr, (e_m4 rfl (e_m2 rfl h1)), (e_m4 rfl (e_m2 rfl h3)), e_hit, rfl⟩
      rintro f st' ⟨v11, hr, h1, h3, h42, rfl⟩
      rw [d_syntax_heads_j4] at hr
      unfold x_syntax_heads_r10s3
      refine o_move (e_t h42) ?_
      refine g_splitL e_hit hr (fun hr => ?_) (fun hr => ?_)
      · refine g_skip e_hit ?_
        refine g_skip (e_miss rfl e_hit) ?_
        refine g_skip (e_m2 rfl e_hit) ?_
        refine g_skip (e_m2 rfl (e_miss rfl e_hit)) ?_
        refine o_pick_t (e_t (e_m4 rfl e_hit)) e_c ?_
        refine run_nil ?_
        refine k_then ?_
        exact ⟨true, hr, (e_m4 rfl (e_m2 rfl (e_miss rfl h1))), (e_m4 rfl (e_m2 rfl (e_miss rfl h3))), e_hit, rfl⟩
      refine g_run e_hit ?_
      refine o_fa (e_t (e_m2 rfl h1)) (by exact rfl) ?_
      refine g_run (e_miss rfl e_hit) ?_
      refine o_load (e_t e_hit) ((g_ext rfl 0).trans rfl) (by exact rfl) ?_
      refine g_run (e_m2 rfl e_hit) ?_
      refine o_call (a_cons (e_t e_hit) fz_d (a_cons e_c fz_d (a_cons e_c fz_d a_nil))) ?_
      refine c_syntax_within p0.Fuel (1 : Int) (2000 : Int) rfl ?_
      refine g_run (e_m2 rfl (e_miss rfl e_hit)) ?_
      refine o_not (e_t e_hit) ?_
      refine o_pick_f (e_t (e_m4 rfl e_hit)) (e_t e_hit) ?_
      refine run_nil ?_
      refine k_then ?_
      exact ⟨(!(d_syntax_within p0.Fuel (1 : Int) (2000 : Int))), hr, (e_m4 rfl (e_m2 rfl (e_miss rfl h1))), (e_m4 rfl (e_m2 rfl (e_miss rfl h3))), e_hit, rfl⟩
    rintro f st' ⟨v12, hr, h1, h3, h48, rfl⟩
    rw [d_syntax_heads_j0] at hr
    refine x_condL (e_t h48) hr (fun hr => ?_) (fun hr => ?_)
    · refine x_seq ?_
      refine x_region ?_
      unfold x_syntax_heads_r11
      refine o_move e_c ?_
      refine run_nil ?_
      refine k_then ?_
      refine x_ret ?_
      refine k_thenR ?_
      cases hr
      exact retK (r_tmp e_hit r_nil) (p_one fz_d v_d) (cutS_wf hwf) h
    refine x_skip ?_
    refine k_then ?_
    refine x_seq ?_
    refine x_seq ?_
    refine x_region ?_
    unfold x_syntax_heads_r12
    refine o_fa (e_t h1) (by exact rfl) ?_
    refine o_load (e_t e_hit) ((g_ext rfl 0).trans rfl) (by exact rfl) ?_
    refine o_bin (e_t e_hit) e_c (b_sneqL ?_)
    refine run_nil ?_
    refine k_then ?_
    refine x_condL (e_t e_hit) hr (fun hr => ?_) (fun hr => ?_)
    rotate_left
    · refine x_skip ?_
      refine k_then ?_
      refine x_seq ?_
      refine x_region ?_
      unfold x_syntax_heads_r14
      refine run_app ?_
      unfold x_syntax_heads_r14s0
      refine o_fa (e_t (e_m2 rfl (e_miss rfl h1))) (by exact rfl) ?_
      refine o_load (e_t e_hit) ((g_ext rfl 0).trans rfl) (by exact rfl) ?_
      refine o_bin (e_t e_hit) e_c (b_seql ?_)
      refine o_move (e_t e_hit) ?_
      refine g_splitL e_hit hr (fun hr => ?_) (fun hr => ?_)
      · refine g_skip e_hit ?_
        refine g_skip (e_miss rfl e_hit) ?_
        refine g_skip (e_m2 rfl e_hit) ?_
        refine g_skip (e_m2 rfl (e_miss rfl e_hit)) ?_
        refine o_pick_t (e_t (e_m4 rfl e_hit)) e_c ?_
        refine run_nil ?_
        unfold x_syntax_heads_r14s1
        refine o_move (e_t e_hit) ?_
        refine run_nil ?_
        refine k_then ?_
        refine x_ret ?_
        cases hr
        exact retK (r_tmp e_hit r_nil) (p_one fz_d v_d) (cutS_wf hwf) h
      refine g_run e_hit ?_
      refine o_move (e_t (e_m4 rfl (e_m4 rfl h3))) ?_
      refine g_run (e_miss rfl e_hit) ?_
      refine o_fa (e_t (e_m4 rfl (e_m4 rfl (e_miss rfl h1)))) (by exact rfl) ?_
      refine g_run (e_m2 rfl e_hit) ?_
      refine o_load (e_t e_hit) ((g_ext rfl 0).trans rfl) (by exact rfl) ?_
      refine g_run (e_m2 rfl (e_miss rfl e_hit)) ?_
      obtain ⟨v15, hc_v15, hr⟩ := bind_some hr
      refine o_call (a_cons (e_t (e_m2 rfl e_hit)) (fz_own ((g_ext rfl 1).trans rfl)) (a_cons (e_t e_hit) fz_d a_nil)) ?_
      refine c_slices_Contains_string_string n v2 p0.At hc_v15 ?_
      refine o_pick_f (e_t (e_m4 rfl e_hit)) (e_t e_hit) ?_
      refine run_nil ?_
      unfold x_syntax_heads_r14s1
      refine o_move (e_t e_hit) ?_
      refine run_nil ?_
      refine k_then ?_
      refine x_ret ?_
      cases hr
      exact retK (r_tmp e_hit r_nil) (p_one fz_d v_d) (cutS_wf hwf) h
    refine x_join (fun f st' => ∃ (v14 : Bool), d_syntax_heads_j1 v14 = some r ∧ f 2 = (.d (.bool v14)) ∧ st' = st ++ [(.box [(.d (.str p0.Name)), (.d (.str p0.From)), (.d (.str p0.At)), (.d (.int .i64 p0.Fuel)), (.d (.sl (List.map T_api_Column.row p0.Params))), (.d (.sl (List.map T_api_Stmt.row p0.Body)))]), (.row ty_string w1 (List.map rS v2))]) ?_ ?_
    rotate_left
    · rintro f st' ⟨v14, hr, h2, rfl⟩
      rw [d_syntax_heads_j1] at hr
      refine x_ret ?_
      refine k_thenR ?_
      cases hr
      exact retK (r_tmp h2 r_nil) (p_one fz_d v_d) (cutS_wf hwf) h
    refine x_region ?_
    unfold x_syntax_heads_r13
    refine run_app ?_
    unfold x_syntax_heads_r13s0
    refine o_fa (e_t (e_m2 rfl (e_miss rfl h1))) (by exact rfl) ?_
    refine o_load (e_t e_hit) ((g_ext rfl 0).trans rfl) (by exact rfl) ?_
    refine o_slice (rows := List.map rS [p0.From]) ((rw_cons (e_t e_hit) pc_d (td_cons f_d td_nil) rfl rw_nil)) ?_
    obtain ⟨v13, hc_v13, hr⟩ := bind_some hr
    refine o_call (a_cons (e_t e_hit) fz_ex a_nil) ?_
    refine c_syntax_Free n ([p0.From]) hc_v13 ?_
    refine o_move (e_t e_hit) ?_
    refine g_splitL e_hit hr (fun hr => ?_) (fun hr => ?_)
    rotate_left
    · refine g_skip e_hit ?_
      refine g_skip (e_miss rfl e_hit) ?_
      refine g_skip (e_m2 rfl e_hit) ?_
      refine o_pick_f (e_t (e_m2 rfl (e_miss rfl e_hit))) e_c ?_
      refine run_nil ?_
      refine run_app ?_
      unfold x_syntax_heads_r13s1
      refine o_move (e_t e_hit) ?_
      refine g_skip e_hit ?_
      refine g_skip (e_miss rfl e_hit) ?_
      refine g_skip (e_m2 rfl e_hit) ?_
      refine o_pick_f (e_t (e_m2 rfl (e_miss rfl e_hit))) e_c ?_
      refine run_nil ?_
      unfold x_syntax_heads_r13s2
      refine o_move (e_t e_hit) ?_
      refine run_nil ?_
      refine k_then ?_
      exact ⟨false, hr, e_hit, rfl⟩
    refine g_run e_hit ?_
    refine o_move (e_t (e_m4 rfl (e_m4 rfl (e_miss rfl h3)))) ?_
    refine g_run (e_miss rfl e_hit) ?_
    refine o_lenL (row := rS) (ar_of (e_t e_hit) (ar_own ((g_ext rfl 1).trans rfl))) ?_
    refine g_run (e_m2 rfl e_hit) ?_
    refine o_bin (e_t e_hit) e_c (b_eql ?_)
    refine o_pick_t (e_t (e_m2 rfl (e_miss rfl e_hit))) (e_t e_hit) ?_
    refine run_nil ?_
    refine run_app ?_
    unfold x_syntax_heads_r13s1
    refine o_move (e_t e_hit) ?_
    refine g_splitL e_hit hr (fun hr => ?_) (fun hr => ?_)
    rotate_left
    · refine g_skip e_hit ?_
      refine g_skip (e_miss rfl e_hit) ?_
      refine g_skip (e_m2 rfl e_hit) ?_
      refine o_pick_f (e_t (e_m2 rfl (e_miss rfl e_hit))) e_c ?_
      refine run_nil ?_
      unfold x_syntax_heads_r13s2
      refine o_move (e_t e_hit) ?_
      refine run_nil ?_
      refine k_then ?_
      exact ⟨false, hr, e_hit, rfl⟩
    refine g_run e_hit ?_
    refine o_fa (e_t (e_m4 rfl (e_m4 rfl (e_m4 rfl (e_m2 rfl (e_miss rfl h1)))))) (by exact rfl) ?_
    refine g_run (e_miss rfl e_hit) ?_
    refine o_load (e_t e_hit) ((g_ext rfl 0).trans rfl) (by exact rfl) ?_
    refine g_run (e_m2 rfl e_hit) ?_
    refine o_bin (e_t e_hit) e_c (b_seql ?_)
    refine o_pick_t (e_t (e_m2 rfl (e_miss rfl e_hit))) (e_t e_hit) ?_
    refine run_nil ?_
    unfold x_syntax_heads_r13s2
    refine o_move (e_t e_hit) ?_
    refine run_nil ?_
    refine k_then ?_
    exact ⟨(decide (p0.At = (⟨#[]⟩ : ByteArray))), hr, e_hit, rfl⟩

def d_syntax_size_small (p0 : T_syntax_size) : Bool :=
  (bif (decide (p0.nodes ≤ (300 : Int))) then (decide (p0.depth ≤ (12 : Int))) else false)
set_option maxRecDepth 100000 in
set_option maxHeartbeats 4000000 in
theorem c_syntax_size_small (p0 : T_syntax_size) {r : Bool} (hr : d_syntax_size_small p0 = r) {x0 : Nat} (hx_x0 : st[x0]? = some (.box [(.d (.int .i64 p0.nodes)), (.d (.int .i64 p0.depth))])) {K : PV → List Content → Prop} (h : K (.d (.bool r)) st) : ACalls PR n_syntax_size_small [(.ptr x0 0)] st K := by
  refine ACalls.of F_syntax_size_small (Nat.le_of_ble_eq_true rfl) fun hwf => ?_
  rw [args0_1]
  refine entry_nil ?_
  unfold x_syntax_size_small
  rw [d_syntax_size_small] at hr
  refine x_seq ?_
  refine x_region ?_
  unfold x_syntax_size_small_r0
  refine o_move e_c ?_
  refine run_nil ?_
  refine k_then ?_
  refine x_seq ?_
  refine x_region ?_
  unfold x_syntax_size_small_r1
  refine run_app ?_
  unfold x_syntax_size_small_r1s0
  refine o_move (e_t (e_miss rfl e_hit)) ?_
  refine o_nilc (e_t e_hit) ?_
  refine o_fa (e_t e_hit) (by exact rfl) ?_
  refine o_load (e_t e_hit) (g_old hx_x0) (by exact rfl) ?_
  refine o_bin (e_t e_hit) e_c (b_leq ?_)
  refine o_move (e_t e_hit) ?_
  refine g_splitL e_hit hr (fun hr => ?_) (fun hr => ?_)
  rotate_left
  · refine g_skip e_hit ?_
    refine g_skip (e_miss rfl e_hit) ?_
    refine g_skip (e_m2 rfl e_hit) ?_
    refine g_skip (e_m2 rfl (e_miss rfl e_hit)) ?_
    refine g_skip (e_m4 rfl e_hit) ?_
    refine o_pick_f (e_t (e_m4 rfl (e_miss rfl e_hit))) e_c ?_
    refine run_nil ?_
    unfold x_syntax_size_small_r1s1
    refine o_move (e_t e_hit) ?_
    refine run_nil ?_
    refine k_then ?_
    refine x_ret ?_
    subst hr
    exact retK (r_tmp e_hit r_nil) (p_one fz_d v_d) (cutS_wf hwf) h
  refine g_run e_hit ?_
  refine o_move (e_t (e_m4 rfl (e_m4 rfl e_hit))) ?_
  refine g_run (e_miss rfl e_hit) ?_
  refine o_nilc (e_t e_hit) ?_
  refine g_run (e_m2 rfl e_hit) ?_
  refine o_fa (e_t e_hit) (by exact rfl) ?_
  refine g_run (e_m2 rfl (e_miss rfl e_hit)) ?_
  refine o_load (e_t e_hit) (g_old hx_x0) (by exact rfl) ?_
  refine g_run (e_m4 rfl e_hit) ?_
  refine o_bin (e_t e_hit) e_c (b_leq ?_)
  refine o_pick_t (e_t (e_m4 rfl (e_miss rfl e_hit))) (e_t e_hit) ?_
  refine run_nil ?_
  unfold x_syntax_size_small_r1s1
  refine o_move (e_t e_hit) ?_
  refine run_nil ?_
  refine k_then ?_
  refine x_ret ?_
  subst hr
  exact retK (r_tmp e_hit r_nil) (p_one fz_d v_d) (cutS_wf hwf) h
end Go.Ax
