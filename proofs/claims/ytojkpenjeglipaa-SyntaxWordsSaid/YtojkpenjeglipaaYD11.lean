import Derived.Test.YtojkpenjeglipaaYT
import Derived.Test.YtojkpenjeglipaaVX
import Derived.Test.YtojkpenjeglipaaPrim
import Derived.Test.YtojkpenjeglipaaYD2
import Derived.Test.YtojkpenjeglipaaYD10
set_option linter.unusedVariables false
set_option linter.unusedSimpArgs false
namespace Go.Ax
attribute [local irreducible] xexec xops xpre xrun xacc thenX inBlockX RetK XLoop upd ev u0 frzA frz asRows binK mmD bnd okAll fillP fillOk rowsOf toDs frz1 pack cutV tokC tokArgs
variable {st : List Content}

def d_affluxref03_Named_j1 (v2 : Int) (rec_l_0 : Int → Option Bool) (v3 : Int) (v4 : Bool) : Option Bool :=
  (bif (!v4) then (bif (decide (v2 = (0 : Int))) then some false else (bif (decide ((48 : Int) ≤ v3)) then (bif (!(decide (v3 ≤ (57 : Int)))) then (bif (!decide (v3 = (95 : Int))) then some false else rec_l_0 (IntKind.wrap .i64 (v2 + (1 : Int)))) else rec_l_0 (IntKind.wrap .i64 (v2 + (1 : Int)))) else (bif (!false) then (bif (!decide (v3 = (95 : Int))) then some false else rec_l_0 (IntKind.wrap .i64 (v2 + (1 : Int)))) else rec_l_0 (IntKind.wrap .i64 (v2 + (1 : Int)))))) else rec_l_0 (IntKind.wrap .i64 (v2 + (1 : Int))))
def d_affluxref03_Named_l0b (p0 : ByteArray) (rec_l_0 : Int → Option Bool) (v2 : Int) : Option Bool :=
  (bif (decide (v2 < (p0.size : Int))) then ((idxS p0 v2).bind fun v3 => (bif (decide ((97 : Int) ≤ v3)) then (d_affluxref03_Named_j1 v2 rec_l_0 v3 (decide (v3 ≤ (122 : Int)))) else (d_affluxref03_Named_j1 v2 rec_l_0 v3 false))) else some true)
def d_affluxref03_Named_l0 (p0 : ByteArray) : Nat → Int → Option Bool
  | 0, _ => none
  | m + 1, v2 => d_affluxref03_Named_l0b p0 (d_affluxref03_Named_l0 p0 m) v2
def d_affluxref03_Named_j0 (p0 : ByteArray) (n : Nat) (v1 : Bool) : Option Bool :=
  (bif v1 then some false else (d_affluxref03_Named_l0 p0 n (0 : Int)))
def d_affluxref03_Named (n : Nat) (p0 : ByteArray) : Option Bool :=
  (bif (decide ((p0.size : Int) < (1 : Int))) then (d_affluxref03_Named_j0 p0 n true) else (d_affluxref03_Named_j0 p0 n (decide ((16 : Int) < (p0.size : Int)))))
set_option maxRecDepth 100000 in
set_option maxHeartbeats 4000000 in
theorem c_affluxref03_Named (n : Nat) (p0 : ByteArray) {r : Bool} (hr : d_affluxref03_Named n p0 = some r) {K : PV → List Content → Prop} (h : K (.d (.bool r)) st) : ACalls PR n_affluxref03_Named [(.d (.str p0))] st K := by
  refine ACalls.of F_affluxref03_Named (Nat.le_of_ble_eq_true rfl) fun hwf => ?_
  rw [args0_1]
  refine entry_nil ?_
  unfold x_affluxref03_Named
  rw [d_affluxref03_Named] at hr
  refine x_seq ?_
  refine x_region ?_
  unfold x_affluxref03_Named_r0
  refine o_move e_c ?_
  refine run_nil ?_
  refine k_then ?_
  refine x_seq ?_
  refine x_join (fun f st' => ∃ (v1 : Bool), d_affluxref03_Named_j0 p0 n v1 = some r ∧ f 0 = (.d (.str p0)) ∧ f 13 = (.d (.bool v1)) ∧ st' = st ++ []) ?_ ?_
  · refine x_region ?_
    unfold x_affluxref03_Named_r1
    refine o_move (e_t (e_miss rfl e_hit)) ?_
    refine o_lenS (e_t e_hit) ?_
    refine o_bin (e_t e_hit) e_c (b_lss ?_)
    refine o_move (e_t e_hit) ?_
    refine g_splitL e_hit hr (fun hr => ?_) (fun hr => ?_)
    · refine g_skip e_hit ?_
      refine g_skip (e_miss rfl e_hit) ?_
      refine g_skip (e_m2 rfl e_hit) ?_
      refine o_pick_t (e_t (e_m2 rfl (e_miss rfl e_hit))) e_c ?_
      refine run_nil ?_
      refine k_then ?_
      exact ⟨true, hr, (e_m4 rfl (e_m4 rfl (e_m2 rfl e_hit))), e_hit, rfl⟩
    refine g_run e_hit ?_
    refine o_move (e_t (e_m4 rfl (e_m2 rfl e_hit))) ?_
    refine g_run (e_miss rfl e_hit) ?_
    refine o_lenS (e_t e_hit) ?_
    refine g_run (e_m2 rfl e_hit) ?_
    refine o_bin (e_t e_hit) e_c (b_gtrL ?_)
    refine o_pick_f (e_t (e_m2 rfl (e_miss rfl e_hit))) (e_t e_hit) ?_
    refine run_nil ?_
    refine k_then ?_
    exact ⟨(decide ((16 : Int) < (p0.size : Int))), hr, (e_m4 rfl (e_m4 rfl (e_m2 rfl e_hit))), e_hit, rfl⟩
  rintro f st' ⟨v1, hr, h0, h13, rfl⟩
  rw [d_affluxref03_Named_j0] at hr
  refine x_condL (e_t h13) hr (fun hr => ?_) (fun hr => ?_)
  · refine x_seq ?_
    refine x_region ?_
    unfold x_affluxref03_Named_r2
    refine o_move e_c ?_
    refine run_nil ?_
    refine k_then ?_
    refine x_ret ?_
    refine k_thenR ?_
    cases hr
    exact retK (r_tmp e_hit r_nil) (p_one fz_d v_d) (cutS_wf hwf) h
  refine x_skip ?_
  refine k_then ?_
  refine x_seq ?_
  refine x_seq ?_
  refine x_region ?_
  unfold x_affluxref03_Named_r3
  refine o_move e_c ?_
  refine run_nil ?_
  refine k_then ?_
  refine x_block ?_
  refine x_loopL (fun m f st' => ∃ (v2 : Int), d_affluxref03_Named_l0 p0 m v2 = some r ∧ f 0 = (.d (.str p0)) ∧ f 3 = (.d (.int .i64 v2)) ∧ st' = st ++ []) n (Ghost.refl _) ⟨(0 : Int), hr, (e_miss rfl h0), e_hit, rfl⟩ ?_
  rintro m f st' ⟨v2, hr, h0, h3, rfl⟩
  cases m with
  | zero => cases hr
  | succ m_0 =>
    rw [d_affluxref03_Named_l0] at hr
    generalize hrec_0 : d_affluxref03_Named_l0 p0 m_0 = rec_l_0 at hr
    rw [d_affluxref03_Named_l0b] at hr
    unfold x_affluxref03_Named_l10
    refine x_seq ?_
    refine x_seq ?_
    refine x_region ?_
    unfold x_affluxref03_Named_r4
    refine o_move (e_t h3) ?_
    refine o_move (e_t (e_miss rfl h0)) ?_
    refine o_lenS (e_t e_hit) ?_
    refine o_bin (e_t (e_m2 rfl e_hit)) (e_t e_hit) (b_lss ?_)
    refine run_nil ?_
    refine k_then ?_
    refine x_condL (e_t e_hit) hr (fun hr => ?_) (fun hr => ?_)
    rotate_left
    · refine x_exit ?_
      refine k_thenE ?_
      refine k_thenE ?_
      refine k_inE ?_
      refine k_then ?_
      refine x_seq ?_
      refine x_region ?_
      unfold x_affluxref03_Named_r11
      refine o_move e_c ?_
      refine run_nil ?_
      refine k_then ?_
      refine x_ret ?_
      cases hr
      exact retK (r_tmp e_hit r_nil) (p_one fz_d v_d) (cutS_wf hwf) h
    refine x_skip ?_
    refine k_then ?_
    refine x_seq ?_
    refine x_block ?_
    refine x_seq ?_
    refine x_region ?_
    unfold x_affluxref03_Named_r5
    refine o_move (e_t (e_m4 rfl h0)) ?_
    refine o_move (e_t (e_m4 rfl (e_miss rfl h3))) ?_
    refine o_idxSL (e_t (e_miss rfl e_hit)) (e_t e_hit) hr (fun v3 hr => ?_)
    refine o_move (e_t e_hit) ?_
    refine run_nil ?_
    refine k_then ?_
    refine x_join (fun f st' => ∃ (v4 : Bool), d_affluxref03_Named_j1 v2 rec_l_0 v3 v4 = some r ∧ f 0 = (.d (.str p0)) ∧ f 3 = (.d (.int .i64 v2)) ∧ f 4 = (.d (.int .u8 v3)) ∧ f 5 = (.d (.bool v4)) ∧ st' = st ++ []) ?_ ?_
    · refine x_region ?_
      unfold x_affluxref03_Named_r6
      refine run_app ?_
      unfold x_affluxref03_Named_r6s0
      refine o_move (e_t e_hit) ?_
      refine o_bin (e_t e_hit) e_c (b_geqL ?_)
      refine o_move (e_t e_hit) ?_
      refine g_splitL e_hit hr (fun hr => ?_) (fun hr => ?_)
      rotate_left
      · refine g_skip e_hit ?_
        refine g_skip (e_miss rfl e_hit) ?_
        refine o_pick_f (e_t (e_m2 rfl e_hit)) e_c ?_
        refine run_nil ?_
        unfold x_affluxref03_Named_r6s1
        refine o_move (e_t e_hit) ?_
        refine run_nil ?_
        refine k_then ?_
        exact ⟨false, hr, (e_m4 rfl (e_m4 rfl (e_m4 rfl (e_m4 rfl h0)))), (e_m4 rfl (e_m4 rfl (e_m4 rfl (e_m4 rfl h3)))), (e_m4 rfl (e_m4 rfl e_hit)), e_hit, rfl⟩
      refine g_run e_hit ?_
      refine o_move (e_t (e_m4 rfl e_hit)) ?_
      refine g_run (e_miss rfl e_hit) ?_
      refine o_bin (e_t e_hit) e_c (b_leq ?_)
      refine o_pick_t (e_t (e_m2 rfl e_hit)) (e_t e_hit) ?_
      refine run_nil ?_
      unfold x_affluxref03_Named_r6s1
      refine o_move (e_t e_hit) ?_
      refine run_nil ?_
      refine k_then ?_
      exact ⟨(decide (v3 ≤ (122 : Int))), hr, (e_m4 rfl (e_m4 rfl (e_m4 rfl (e_m4 rfl h0)))), (e_m4 rfl (e_m4 rfl (e_m4 rfl (e_m4 rfl h3)))), (e_m4 rfl (e_m4 rfl e_hit)), e_hit, rfl⟩
    rintro f st' ⟨v4, hr, h0, h3, h4, h5, rfl⟩
    rw [d_affluxref03_Named_j1] at hr
    refine x_seq ?_
    refine x_region ?_
    unfold x_affluxref03_Named_r7
    refine o_move (e_t h5) ?_
    refine o_not (e_t e_hit) ?_
    refine o_move (e_t e_hit) ?_
    refine g_splitL e_hit hr (fun hr => ?_) (fun hr => ?_)
    rotate_left
    · refine g_skip e_hit ?_
      refine g_skip (e_miss rfl e_hit) ?_
      refine g_skip (e_m2 rfl e_hit) ?_
      refine g_none e_hit ?_
      refine g_none (e_miss rfl e_hit) ?_
      refine g_none (e_m2 rfl e_hit) ?_
      refine g_none e_hit ?_
      refine g_none (e_miss rfl e_hit) ?_
      refine g_none (e_m4 rfl (e_miss rfl e_hit)) ?_
      refine g_none (e_m4 rfl (e_m2 rfl e_hit)) ?_
      refine g_none (e_m4 rfl (e_m2 rfl (e_miss rfl e_hit))) ?_
      refine g_none e_hit ?_
      refine g_none (e_miss rfl e_hit) ?_
      refine g_none (e_m4 rfl (e_m4 rfl (e_m2 rfl e_hit))) ?_
      refine g_skip (e_m4 rfl (e_m4 rfl (e_m4 rfl (e_m2 rfl e_hit)))) ?_
      refine o_pick_f (e_t (e_m4 rfl (e_m4 rfl (e_m4 rfl (e_m2 rfl (e_miss rfl e_hit)))))) e_c ?_
      refine run_nil ?_
      refine k_then ?_
      refine x_cond_f (e_t e_hit) ?_
      refine x_skip ?_
      refine k_inN ?_
      refine k_then ?_
      refine x_region ?_
      unfold x_affluxref03_Named_r9
      refine o_move (e_t (e_m4 rfl (e_m4 rfl (e_m4 rfl (e_m4 rfl (e_m4 rfl h3)))))) ?_
      refine o_bin (e_t e_hit) e_c (b_add ?_)
      refine o_move (e_t e_hit) ?_
      refine run_nil ?_
      refine k_then ?_
      exact ⟨m_0, _, Nat.lt_succ_self m_0, Ghost.refl _, (IntKind.wrap .i64 (v2 + (1 : Int))), (by rw [hrec_0]; exact hr), (e_m4 rfl (e_m4 rfl (e_m4 rfl (e_m4 rfl (e_m4 rfl (e_m2 rfl (e_miss rfl h0))))))), e_hit, rfl⟩
    refine g_run e_hit ?_
    refine o_move (e_t (e_m4 rfl h3)) ?_
    refine g_run (e_miss rfl e_hit) ?_
    refine o_bin (e_t e_hit) e_c (b_eql ?_)
    refine g_run (e_m2 rfl e_hit) ?_
    refine o_move (e_t e_hit) ?_
    refine g_splitL e_hit hr (fun hr => ?_) (fun hr => ?_)
    · refine g_skip e_hit ?_
      refine g_skip (e_miss rfl e_hit) ?_
      refine g_skip (e_m2 rfl e_hit) ?_
      refine g_none e_hit ?_
      refine g_none (e_miss rfl e_hit) ?_
      refine g_skip (e_m4 rfl (e_miss rfl e_hit)) ?_
      refine g_skip (e_m4 rfl (e_m2 rfl e_hit)) ?_
      refine g_skip (e_m4 rfl (e_m2 rfl (e_miss rfl e_hit))) ?_
      refine g_none e_hit ?_
      refine g_none (e_miss rfl e_hit) ?_
      refine g_skip (e_m4 rfl (e_m4 rfl (e_m2 rfl e_hit))) ?_
      refine g_run (e_m4 rfl (e_m4 rfl (e_m4 rfl (e_m2 rfl (e_miss rfl e_hit))))) ?_
      refine o_pick_t (e_t (e_m4 rfl (e_m4 rfl (e_m2 rfl (e_miss rfl e_hit))))) e_c ?_
      refine o_pick_t (e_t (e_m4 rfl (e_m4 rfl (e_m4 rfl (e_m4 rfl e_hit))))) (e_t e_hit) ?_
      refine run_nil ?_
      refine k_then ?_
      refine x_cond_t (e_t e_hit) ?_
      refine x_seq ?_
      refine x_region ?_
      unfold x_affluxref03_Named_r8
      refine o_move e_c ?_
      refine run_nil ?_
      refine k_then ?_
      refine x_ret ?_
      refine k_inR ?_
      refine k_thenR ?_
      refine k_thenR ?_
      refine k_inR ?_
      refine k_thenR ?_
      cases hr
      exact retK (r_tmp e_hit r_nil) (p_one fz_d v_d) (cutS_wf hwf) h
    refine g_run e_hit ?_
    refine o_move (e_t (e_m4 rfl (e_m4 rfl h4))) ?_
    refine g_run (e_miss rfl e_hit) ?_
    refine o_bin (e_t e_hit) e_c (b_geqL ?_)
    refine g_run (e_m2 rfl e_hit) ?_
    refine o_move (e_t e_hit) ?_
    refine g_splitL e_hit hr (fun hr => ?_) (fun hr => ?_)
    rotate_left
    · refine g_skip e_hit ?_
      refine g_skip (e_miss rfl e_hit) ?_
      refine g_run (e_m4 rfl (e_m2 rfl e_hit)) ?_
      refine o_pick_f (e_t (e_m2 rfl e_hit)) e_c ?_
      refine g_run (e_m4 rfl (e_m2 rfl (e_miss rfl e_hit))) ?_
      refine o_not (e_t e_hit) ?_
      refine g_run (e_m4 rfl (e_m4 rfl e_hit)) ?_
      refine o_move (e_t e_hit) ?_
      refine g_splitL e_hit hr (fun hr => ?_) (fun hr => ?_)
      rotate_left
      · refine g_skip e_hit ?_
        refine g_skip (e_miss rfl e_hit) ?_
        refine g_run (e_m4 rfl (e_m4 rfl (e_m4 rfl e_hit))) ?_
        refine o_pick_f (e_t (e_m2 rfl e_hit)) e_c ?_
        refine g_run (e_m4 rfl (e_m4 rfl (e_m4 rfl (e_m4 rfl (e_miss rfl e_hit))))) ?_
        refine o_pick_f (e_t (e_m4 rfl (e_m4 rfl (e_m4 rfl (e_miss rfl e_hit))))) (e_t e_hit) ?_
        refine o_pick_t (e_t (e_m4 rfl (e_m4 rfl (e_m4 rfl (e_m4 rfl (e_m2 rfl e_hit)))))) (e_t e_hit) ?_
        refine run_nil ?_
        refine k_then ?_
        refine x_cond_f (e_t e_hit) ?_
        refine x_skip ?_
        refine k_inN ?_
        refine k_then ?_
        refine x_region ?_
        unfold x_affluxref03_Named_r9
        refine o_move (e_t (e_m4 rfl (e_m4 rfl (e_m4 rfl (e_m4 rfl (e_m4 rfl (e_m2 rfl (e_miss rfl h3)))))))) ?_
        refine o_bin (e_t e_hit) e_c (b_add ?_)
        refine o_move (e_t e_hit) ?_
        refine run_nil ?_
        refine k_then ?_
        exact ⟨m_0, _, Nat.lt_succ_self m_0, Ghost.refl _, (IntKind.wrap .i64 (v2 + (1 : Int))), (by rw [hrec_0]; exact hr), (e_m4 rfl (e_m4 rfl (e_m4 rfl (e_m4 rfl (e_m4 rfl (e_m4 rfl (e_m2 rfl h0))))))), e_hit, rfl⟩
      refine g_run e_hit ?_
      refine o_move (e_t (e_m4 rfl (e_m4 rfl (e_m4 rfl (e_m4 rfl (e_m2 rfl h4)))))) ?_
      refine g_run (e_miss rfl e_hit) ?_
      refine o_bin (e_t e_hit) e_c (b_neqL ?_)
      refine g_run (e_m4 rfl (e_m4 rfl (e_m4 rfl e_hit))) ?_
      refine o_pick_t (e_t (e_m2 rfl e_hit)) (e_t e_hit) ?_
      refine g_run (e_m4 rfl (e_m4 rfl (e_m4 rfl (e_m4 rfl (e_miss rfl e_hit))))) ?_
      refine o_pick_f (e_t (e_m4 rfl (e_m4 rfl (e_m4 rfl (e_miss rfl e_hit))))) (e_t e_hit) ?_
      refine o_pick_t (e_t (e_m4 rfl (e_m4 rfl (e_m4 rfl (e_m4 rfl (e_m2 rfl e_hit)))))) (e_t e_hit) ?_
      refine run_nil ?_
      refine k_then ?_
      refine x_condL (e_t e_hit) hr (fun hr => ?_) (fun hr => ?_)
      rotate_left
      · refine x_skip ?_
        refine k_inN ?_
        refine k_then ?_
        refine x_region ?_
        unfold x_affluxref03_Named_r9
        refine o_move (e_t (e_m4 rfl (e_m4 rfl (e_m4 rfl (e_m4 rfl (e_m4 rfl (e_m2 rfl (e_miss rfl h3)))))))) ?_
        refine o_bin (e_t e_hit) e_c (b_add ?_)
        refine o_move (e_t e_hit) ?_
        refine run_nil ?_
        refine k_then ?_
        exact ⟨m_0, _, Nat.lt_succ_self m_0, Ghost.refl _, (IntKind.wrap .i64 (v2 + (1 : Int))), (by rw [hrec_0]; exact hr), (e_m4 rfl (e_m4 rfl (e_m4 rfl (e_m4 rfl (e_m4 rfl (e_m4 rfl (e_m2 rfl h0))))))), e_hit, rfl⟩
      refine x_seq ?_
      refine x_region ?_
      unfold x_affluxref03_Named_r8
      refine o_move e_c ?_
      refine run_nil ?_
      refine k_then ?_
      refine x_ret ?_
      refine k_inR ?_
      refine k_thenR ?_
      refine k_thenR ?_
      refine k_inR ?_
      refine k_thenR ?_
      cases hr
      exact retK (r_tmp e_hit r_nil) (p_one fz_d v_d) (cutS_wf hwf) h
    refine g_run e_hit ?_
    refine o_move (e_t (e_m4 rfl (e_m4 rfl (e_m4 rfl h4)))) ?_
    refine g_run (e_miss rfl e_hit) ?_
    refine o_bin (e_t e_hit) e_c (b_leq ?_)
    refine g_run (e_m4 rfl (e_m2 rfl e_hit)) ?_
    refine o_pick_t (e_t (e_m2 rfl e_hit)) (e_t e_hit) ?_
    refine g_run (e_m4 rfl (e_m2 rfl (e_miss rfl e_hit))) ?_
    refine o_not (e_t e_hit) ?_
    refine g_run (e_m4 rfl (e_m4 rfl e_hit)) ?_
    refine o_move (e_t e_hit) ?_
    refine g_splitL e_hit hr (fun hr => ?_) (fun hr => ?_)
    rotate_left
    · refine g_skip e_hit ?_
      refine g_skip (e_miss rfl e_hit) ?_
      refine g_run (e_m4 rfl (e_m4 rfl (e_m4 rfl e_hit))) ?_
      refine o_pick_f (e_t (e_m2 rfl e_hit)) e_c ?_
      refine g_run (e_m4 rfl (e_m4 rfl (e_m4 rfl (e_m4 rfl (e_miss rfl e_hit))))) ?_
      refine o_pick_f (e_t (e_m4 rfl (e_m4 rfl (e_m4 rfl (e_miss rfl e_hit))))) (e_t e_hit) ?_
      refine o_pick_t (e_t (e_m4 rfl (e_m4 rfl (e_m4 rfl (e_m4 rfl (e_m2 rfl e_hit)))))) (e_t e_hit) ?_
      refine run_nil ?_
      refine k_then ?_
      refine x_cond_f (e_t e_hit) ?_
      refine x_skip ?_
      refine k_inN ?_
      refine k_then ?_
      refine x_region ?_
      unfold x_affluxref03_Named_r9
      refine o_move (e_t (e_m4 rfl (e_m4 rfl (e_m4 rfl (e_m4 rfl (e_m4 rfl (e_m2 rfl (e_miss rfl h3)))))))) ?_
      refine o_bin (e_t e_hit) e_c (b_add ?_)
      refine o_move (e_t e_hit) ?_
      refine run_nil ?_
      refine k_then ?_
      exact ⟨m_0, _, Nat.lt_succ_self m_0, Ghost.refl _, (IntKind.wrap .i64 (v2 + (1 : Int))), (by rw [hrec_0]; exact hr), (e_m4 rfl (e_m4 rfl (e_m4 rfl (e_m4 rfl (e_m4 rfl (e_m4 rfl (e_m2 rfl h0))))))), e_hit, rfl⟩
    refine g_run e_hit ?_
    refine o_move (e_t (e_m4 rfl (e_m4 rfl (e_m4 rfl (e_m4 rfl (e_m2 rfl h4)))))) ?_
    refine g_run (e_miss rfl e_hit) ?_
    refine o_bin (e_t e_hit) e_c (b_neqL ?_)
    refine g_run (e_m4 rfl (e_m4 rfl (e_m4 rfl e_hit))) ?_
    refine o_pick_t (e_t (e_m2 rfl e_hit)) (e_t e_hit) ?_
    refine g_run (e_m4 rfl (e_m4 rfl (e_m4 rfl (e_m4 rfl (e_miss rfl e_hit))))) ?_
    refine o_pick_f (e_t (e_m4 rfl (e_m4 rfl (e_m4 rfl (e_miss rfl e_hit))))) (e_t e_hit) ?_
    refine o_pick_t (e_t (e_m4 rfl (e_m4 rfl (e_m4 rfl (e_m4 rfl (e_m2 rfl e_hit)))))) (e_t e_hit) ?_
    refine run_nil ?_
    refine k_then ?_
    refine x_condL (e_t e_hit) hr (fun hr => ?_) (fun hr => ?_)
    rotate_left
    · refine x_skip ?_
      refine k_inN ?_
      refine k_then ?_
      refine x_region ?_
      unfold x_affluxref03_Named_r9
      refine o_move (e_t (e_m4 rfl (e_m4 rfl (e_m4 rfl (e_m4 rfl (e_m4 rfl (e_m2 rfl (e_miss rfl h3)))))))) ?_
      refine o_bin (e_t e_hit) e_c (b_add ?_)
      refine o_move (e_t e_hit) ?_
      refine run_nil ?_
      refine k_then ?_
      exact ⟨m_0, _, Nat.lt_succ_self m_0, Ghost.refl _, (IntKind.wrap .i64 (v2 + (1 : Int))), (by rw [hrec_0]; exact hr), (e_m4 rfl (e_m4 rfl (e_m4 rfl (e_m4 rfl (e_m4 rfl (e_m4 rfl (e_m2 rfl h0))))))), e_hit, rfl⟩
    refine x_seq ?_
    refine x_region ?_
    unfold x_affluxref03_Named_r8
    refine o_move e_c ?_
    refine run_nil ?_
    refine k_then ?_
    refine x_ret ?_
    refine k_inR ?_
    refine k_thenR ?_
    refine k_thenR ?_
    refine k_inR ?_
    refine k_thenR ?_
    cases hr
    exact retK (r_tmp e_hit r_nil) (p_one fz_d v_d) (cutS_wf hwf) h

def d_affluxref12_Free (n : Nat) (p0 : ByteArray) : Option Bool :=
  ((d_affluxref03_Named n p0).bind fun v1 => (bif v1 then ((d_affluxref12_Reserved n p0).bind fun v2 => some (!v2)) else some false))
set_option maxRecDepth 100000 in
set_option maxHeartbeats 4000000 in
theorem c_affluxref12_Free (n : Nat) (p0 : ByteArray) {r : Bool} (hr : d_affluxref12_Free n p0 = some r) {K : PV → List Content → Prop} (h : K (.d (.bool r)) st) : ACalls PR n_affluxref12_Free [(.d (.str p0))] st K := by
  refine ACalls.of F_affluxref12_Free (Nat.le_of_ble_eq_true rfl) fun hwf => ?_
  rw [args0_1]
  refine entry_nil ?_
  unfold x_affluxref12_Free
  rw [d_affluxref12_Free] at hr
  refine x_seq ?_
  refine x_region ?_
  unfold x_affluxref12_Free_r0
  refine o_move e_c ?_
  refine run_nil ?_
  refine k_then ?_
  refine x_seq ?_
  refine x_region ?_
  unfold x_affluxref12_Free_r1
  refine run_app ?_
  unfold x_affluxref12_Free_r1s0
  refine o_move (e_t (e_miss rfl e_hit)) ?_
  obtain ⟨v1, hc_v1, hr⟩ := bind_some hr
  refine o_call (a_cons (e_t e_hit) fz_d a_nil) ?_
  refine c_affluxref03_Named n p0 hc_v1 ?_
  refine o_move (e_t e_hit) ?_
  refine g_splitL e_hit hr (fun hr => ?_) (fun hr => ?_)
  rotate_left
  · refine g_skip e_hit ?_
    refine g_skip (e_miss rfl e_hit) ?_
    refine g_skip (e_m2 rfl e_hit) ?_
    refine o_pick_f (e_t (e_m2 rfl (e_miss rfl e_hit))) e_c ?_
    refine run_nil ?_
    unfold x_affluxref12_Free_r1s1
    refine o_move (e_t e_hit) ?_
    refine run_nil ?_
    refine k_then ?_
    refine x_ret ?_
    cases hr
    exact retK (r_tmp e_hit r_nil) (p_one fz_d v_d) (cutS_wf hwf) h
  refine g_run e_hit ?_
  refine o_move (e_t (e_m4 rfl (e_miss rfl e_hit))) ?_
  refine g_run (e_miss rfl e_hit) ?_
  obtain ⟨v2, hc_v2, hr⟩ := bind_some hr
  refine o_call (a_cons (e_t e_hit) fz_d a_nil) ?_
  refine c_affluxref12_Reserved n p0 hc_v2 ?_
  refine g_run (e_m2 rfl e_hit) ?_
  refine o_not (e_t e_hit) ?_
  refine o_pick_t (e_t (e_m2 rfl (e_miss rfl e_hit))) (e_t e_hit) ?_
  refine run_nil ?_
  unfold x_affluxref12_Free_r1s1
  refine o_move (e_t e_hit) ?_
  refine run_nil ?_
  refine k_then ?_
  refine x_ret ?_
  cases hr
  exact retK (r_tmp e_hit r_nil) (p_one fz_d v_d) (cutS_wf hwf) h

def d_affluxlaw12_SyntaxWords_j2 (n : Nat) (v12 : Bool) : Option Bool :=
  (bif v12 then ((d_syntax_Free n ([])).bind fun v13 => (bif v13 then ((d_affluxlaw12_awake n).bind fun v14 => some v14) else some false)) else some false)
def d_affluxlaw12_SyntaxWords_j1 (p0 : ByteArray) (p1 : ByteArray) (n : Nat) (v8 : Bool) : Option Bool :=
  (bif v8 then ((d_syntax_Free n ([p0, p1])).bind fun v9 => ((d_affluxref12_Free n p0).bind fun v10 => (bif v10 then ((d_affluxref12_Free n p1).bind fun v11 => (d_affluxlaw12_SyntaxWords_j2 n (v9 == v11))) else (d_affluxlaw12_SyntaxWords_j2 n (v9 == false))))) else (d_affluxlaw12_SyntaxWords_j2 n false))
def d_affluxlaw12_SyntaxWords_j0 (p0 : ByteArray) (p1 : ByteArray) (n : Nat) (v2 : Bool) : Option Bool :=
  (bif v2 then ((d_affluxlaw12_awake n).bind fun v3 => some v3) else ((d_syntax_Reserved n p0).bind fun v4 => ((d_affluxref12_Reserved n p0).bind fun v5 => (bif (v4 == v5) then ((d_syntax_Free n ([p0])).bind fun v6 => ((d_affluxref12_Free n p0).bind fun v7 => (d_affluxlaw12_SyntaxWords_j1 p0 p1 n (v6 == v7)))) else (d_affluxlaw12_SyntaxWords_j1 p0 p1 n false)))))
def d_affluxlaw12_SyntaxWords (n : Nat) (p0 : ByteArray) (p1 : ByteArray) : Option Bool :=
  (bif (decide ((100 : Int) < (p0.size : Int))) then (d_affluxlaw12_SyntaxWords_j0 p0 p1 n true) else (d_affluxlaw12_SyntaxWords_j0 p0 p1 n (decide ((100 : Int) < (p1.size : Int)))))
set_option maxRecDepth 100000 in
set_option maxHeartbeats 4000000 in
theorem c_affluxlaw12_SyntaxWords (n : Nat) (p0 : ByteArray) (p1 : ByteArray) {r : Bool} (hr : d_affluxlaw12_SyntaxWords n p0 p1 = some r) {K : PV → List Content → Prop} (h : K (.d (.bool r)) st) : ACalls PR n_affluxlaw12_SyntaxWords [(.d (.str p0)), (.d (.str p1))] st K := by
  refine ACalls.of F_affluxlaw12_SyntaxWords (Nat.le_of_ble_eq_true rfl) fun hwf => ?_
  rw [args0_2]
  refine entry_nil ?_
  unfold x_affluxlaw12_SyntaxWords
  rw [d_affluxlaw12_SyntaxWords] at hr
  refine x_seq ?_
  refine x_region ?_
  unfold x_affluxlaw12_SyntaxWords_r0
  refine o_move e_c ?_
  refine run_nil ?_
  refine k_then ?_
  refine x_seq ?_
  refine x_join (fun f st' => ∃ (v2 : Bool), d_affluxlaw12_SyntaxWords_j0 p0 p1 n v2 = some r ∧ f 0 = (.d (.str p0)) ∧ f 1 = (.d (.str p1)) ∧ f 12 = (.d (.bool v2)) ∧ st' = st ++ []) ?_ ?_
  · refine x_region ?_
    unfold x_affluxlaw12_SyntaxWords_r1
    refine o_move (e_t (e_miss rfl e_hit)) ?_
    refine o_lenS (e_t e_hit) ?_
    refine o_bin (e_t e_hit) e_c (b_gtrL ?_)
    refine o_move (e_t e_hit) ?_
    refine g_splitL e_hit hr (fun hr => ?_) (fun hr => ?_)
    · refine g_skip e_hit ?_
      refine g_skip (e_miss rfl e_hit) ?_
      refine g_skip (e_m2 rfl e_hit) ?_
      refine o_pick_t (e_t (e_m2 rfl (e_miss rfl e_hit))) e_c ?_
      refine run_nil ?_
      refine k_then ?_
      exact ⟨true, hr, (e_m4 rfl (e_m4 rfl (e_m2 rfl e_hit))), (e_m4 rfl (e_m4 rfl (e_m2 rfl (e_miss rfl e_hit)))), e_hit, rfl⟩
    refine g_run e_hit ?_
    refine o_move (e_t (e_m4 rfl (e_m2 rfl (e_miss rfl e_hit)))) ?_
    refine g_run (e_miss rfl e_hit) ?_
    refine o_lenS (e_t e_hit) ?_
    refine g_run (e_m2 rfl e_hit) ?_
    refine o_bin (e_t e_hit) e_c (b_gtrL ?_)
    refine o_pick_f (e_t (e_m2 rfl (e_miss rfl e_hit))) (e_t e_hit) ?_
    refine run_nil ?_
    refine k_then ?_
    exact ⟨(decide ((100 : Int) < (p1.size : Int))), hr, (e_m4 rfl (e_m4 rfl (e_m2 rfl e_hit))), (e_m4 rfl (e_m4 rfl (e_m2 rfl (e_miss rfl e_hit)))), e_hit, rfl⟩
  rintro f st' ⟨v2, hr, h0, h1, h12, rfl⟩
  rw [d_affluxlaw12_SyntaxWords_j0] at hr
  refine x_condL (e_t h12) hr (fun hr => ?_) (fun hr => ?_)
  · refine x_seq ?_
    refine x_region ?_
    unfold x_affluxlaw12_SyntaxWords_r2
    obtain ⟨v3, hc_v3, hr⟩ := bind_some hr
    refine o_call a_nil ?_
    refine c_affluxlaw12_awake n hc_v3 ?_
    refine o_move (e_t e_hit) ?_
    refine run_nil ?_
    refine k_then ?_
    refine x_ret ?_
    refine k_thenR ?_
    cases hr
    exact retK (r_tmp e_hit r_nil) (p_one fz_d v_d) (cutS_wf hwf) h
  refine x_skip ?_
  refine k_then ?_
  refine x_seq ?_
  refine x_region ?_
  unfold x_affluxlaw12_SyntaxWords_r3
  refine run_join (fun f st' => ∃ (v8 : Bool), d_affluxlaw12_SyntaxWords_j1 p0 p1 n v8 = some r ∧ f 0 = (.d (.str p0)) ∧ f 1 = (.d (.str p1)) ∧ f 26 = (.d (.bool v8)) ∧ st' = st ++ []) ?_ ?_
  · unfold x_affluxlaw12_SyntaxWords_r3s0
    refine o_move (e_t h0) ?_
    obtain ⟨v4, hc_v4, hr⟩ := bind_some hr
    refine o_call (a_cons (e_t e_hit) fz_d a_nil) ?_
    refine c_syntax_Reserved n p0 hc_v4 ?_
    refine o_move (e_t (e_m2 rfl h0)) ?_
    obtain ⟨v5, hc_v5, hr⟩ := bind_some hr
    refine o_call (a_cons (e_t e_hit) fz_d a_nil) ?_
    refine c_affluxref12_Reserved n p0 hc_v5 ?_
    refine o_eqB (e_t (e_m2 rfl e_hit)) (e_t e_hit) ?_
    refine o_move (e_t e_hit) ?_
    refine g_splitL e_hit hr (fun hr => ?_) (fun hr => ?_)
    rotate_left
    · refine g_skip e_hit ?_
      refine g_skip (e_miss rfl e_hit) ?_
      refine g_skip (e_m2 rfl e_hit) ?_
      refine g_skip (e_m2 rfl (e_miss rfl e_hit)) ?_
      refine g_skip (e_m4 rfl e_hit) ?_
      refine g_skip (e_m4 rfl (e_miss rfl e_hit)) ?_
      refine o_pick_f (e_t (e_m4 rfl (e_m2 rfl e_hit))) e_c ?_
      refine run_nil ?_
      exact ⟨false, hr, (e_m4 rfl (e_m4 rfl (e_m4 rfl (e_m2 rfl h0)))), (e_m4 rfl (e_m4 rfl (e_m4 rfl (e_m2 rfl h1)))), e_hit, rfl⟩
    refine g_run e_hit ?_
    refine o_move (e_t (e_m4 rfl (e_m2 rfl (e_miss rfl h0)))) ?_
    refine g_run (e_miss rfl e_hit) ?_
    refine o_slice (rows := List.map rS [p0]) ((rw_cons (e_t e_hit) pc_d (td_cons f_d td_nil) rfl rw_nil)) ?_
    refine g_run (e_m2 rfl e_hit) ?_
    obtain ⟨v6, hc_v6, hr⟩ := bind_some hr
    refine o_call (a_cons (e_t e_hit) fz_ex a_nil) ?_
    refine c_syntax_Free n ([p0]) hc_v6 ?_
    refine g_run (e_m2 rfl (e_miss rfl e_hit)) ?_
    refine o_move (e_t (e_m4 rfl (e_m4 rfl (e_m2 rfl h0)))) ?_
    refine g_run (e_m4 rfl e_hit) ?_
    obtain ⟨v7, hc_v7, hr⟩ := bind_some hr
    refine o_call (a_cons (e_t e_hit) fz_d a_nil) ?_
    refine c_affluxref12_Free n p0 hc_v7 ?_
    refine g_run (e_m4 rfl (e_miss rfl e_hit)) ?_
    refine o_eqB (e_t (e_m2 rfl e_hit)) (e_t e_hit) ?_
    refine o_pick_t (e_t (e_m4 rfl (e_m2 rfl e_hit))) (e_t e_hit) ?_
    refine run_nil ?_
    exact ⟨(v6 == v7), hr, (e_m4 rfl (e_m4 rfl (e_m4 rfl (e_m2 rfl h0)))), (e_m4 rfl (e_m4 rfl (e_m4 rfl (e_m2 rfl h1)))), e_hit, rfl⟩
  rintro f st' ⟨v8, hr, h0, h1, h26, rfl⟩
  rw [d_affluxlaw12_SyntaxWords_j1] at hr
  refine run_join (fun f st' => ∃ (v12 : Bool), d_affluxlaw12_SyntaxWords_j2 n v12 = some r ∧ f 39 = (.d (.bool v12)) ∧ st' = st ++ []) ?_ ?_
  rotate_left
  · rintro f st' ⟨v12, hr, h39, rfl⟩
    rw [d_affluxlaw12_SyntaxWords_j2] at hr
    refine run_app ?_
    unfold x_affluxlaw12_SyntaxWords_r3s2
    refine o_move (e_t h39) ?_
    refine g_splitL e_hit hr (fun hr => ?_) (fun hr => ?_)
    rotate_left
    · refine g_skip e_hit ?_
      refine o_pick_f (e_t (e_miss rfl e_hit)) e_c ?_
      refine run_nil ?_
      refine run_app ?_
      unfold x_affluxlaw12_SyntaxWords_r3s3
      refine o_move (e_t e_hit) ?_
      refine g_skip e_hit ?_
      refine o_pick_f (e_t (e_miss rfl e_hit)) e_c ?_
      refine run_nil ?_
      unfold x_affluxlaw12_SyntaxWords_r3s4
      refine o_move (e_t e_hit) ?_
      refine run_nil ?_
      refine k_then ?_
      refine x_ret ?_
      cases hr
      exact retK (r_tmp e_hit r_nil) (p_one fz_d v_d) (cutS_wf hwf) h
    refine g_run e_hit ?_
    obtain ⟨v13, hc_v13, hr⟩ := bind_some hr
    refine o_call (a_cons e_c fz_ex a_nil) ?_
    refine c_syntax_Free n ([]) hc_v13 ?_
    refine o_pick_t (e_t (e_miss rfl e_hit)) (e_t e_hit) ?_
    refine run_nil ?_
    refine run_app ?_
    unfold x_affluxlaw12_SyntaxWords_r3s3
    refine o_move (e_t e_hit) ?_
    refine g_splitL e_hit hr (fun hr => ?_) (fun hr => ?_)
    rotate_left
    · refine g_skip e_hit ?_
      refine o_pick_f (e_t (e_miss rfl e_hit)) e_c ?_
      refine run_nil ?_
      unfold x_affluxlaw12_SyntaxWords_r3s4
      refine o_move (e_t e_hit) ?_
      refine run_nil ?_
      refine k_then ?_
      refine x_ret ?_
      cases hr
      exact retK (r_tmp e_hit r_nil) (p_one fz_d v_d) (cutS_wf hwf) h
    refine g_run e_hit ?_
    obtain ⟨v14, hc_v14, hr⟩ := bind_some hr
    refine o_call a_nil ?_
    refine c_affluxlaw12_awake n hc_v14 ?_
    refine o_pick_t (e_t (e_miss rfl e_hit)) (e_t e_hit) ?_
    refine run_nil ?_
    unfold x_affluxlaw12_SyntaxWords_r3s4
    refine o_move (e_t e_hit) ?_
    refine run_nil ?_
    refine k_then ?_
    refine x_ret ?_
    cases hr
    exact retK (r_tmp e_hit r_nil) (p_one fz_d v_d) (cutS_wf hwf) h
  unfold x_affluxlaw12_SyntaxWords_r3s1
  refine o_move (e_t h26) ?_
  refine g_splitL e_hit hr (fun hr => ?_) (fun hr => ?_)
  rotate_left
  · refine g_skip e_hit ?_
    refine g_skip (e_miss rfl e_hit) ?_
    refine g_skip (e_m2 rfl e_hit) ?_
    refine g_skip (e_m2 rfl (e_miss rfl e_hit)) ?_
    refine g_skip (e_m4 rfl e_hit) ?_
    refine g_skip (e_m4 rfl (e_miss rfl e_hit)) ?_
    refine g_skip (e_m4 rfl (e_m2 rfl e_hit)) ?_
    refine g_none e_hit ?_
    refine g_none (e_miss rfl e_hit) ?_
    refine g_skip (e_m4 rfl (e_m4 rfl (e_miss rfl e_hit))) ?_
    refine g_skip (e_m4 rfl (e_m4 rfl (e_m2 rfl e_hit))) ?_
    refine o_pick_f (e_t (e_m4 rfl (e_m4 rfl (e_m2 rfl (e_miss rfl e_hit))))) e_c ?_
    refine run_nil ?_
    exact ⟨false, hr, e_hit, rfl⟩
  refine g_run e_hit ?_
  refine o_move (e_t (e_m2 rfl h0)) ?_
  refine g_run (e_miss rfl e_hit) ?_
  refine o_move (e_t (e_m2 rfl (e_miss rfl h1))) ?_
  refine g_run (e_m2 rfl e_hit) ?_
  refine o_slice (rows := List.map rS [p0, p1]) ((rw_cons (e_t (e_miss rfl e_hit)) pc_d (td_cons f_d td_nil) rfl (rw_cons (e_t e_hit) pc_d (td_cons f_d td_nil) rfl rw_nil))) ?_
  refine g_run (e_m2 rfl (e_miss rfl e_hit)) ?_
  obtain ⟨v9, hc_v9, hr⟩ := bind_some hr
  refine o_call (a_cons (e_t e_hit) fz_ex a_nil) ?_
  refine c_syntax_Free n ([p0, p1]) hc_v9 ?_
  refine g_run (e_m4 rfl e_hit) ?_
  refine o_move (e_t (e_m4 rfl (e_m2 rfl h0))) ?_
  refine g_run (e_m4 rfl (e_miss rfl e_hit)) ?_
  obtain ⟨v10, hc_v10, hr⟩ := bind_some hr
  refine o_call (a_cons (e_t e_hit) fz_d a_nil) ?_
  refine c_affluxref12_Free n p0 hc_v10 ?_
  refine g_run (e_m4 rfl (e_m2 rfl e_hit)) ?_
  refine o_move (e_t e_hit) ?_
  refine g_splitL e_hit hr (fun hr => ?_) (fun hr => ?_)
  rotate_left
  · refine g_skip e_hit ?_
    refine g_skip (e_miss rfl e_hit) ?_
    refine g_run (e_m4 rfl (e_m4 rfl (e_m2 rfl e_hit))) ?_
    refine o_pick_f (e_t (e_m2 rfl e_hit)) e_c ?_
    refine g_run (e_m4 rfl (e_m4 rfl (e_m2 rfl (e_miss rfl e_hit)))) ?_
    refine o_eqB (e_t (e_m4 rfl (e_m2 rfl (e_miss rfl e_hit)))) (e_t e_hit) ?_
    refine o_pick_t (e_t (e_m4 rfl (e_m4 rfl (e_m4 rfl e_hit)))) (e_t e_hit) ?_
    refine run_nil ?_
    exact ⟨(v9 == false), hr, e_hit, rfl⟩
  refine g_run e_hit ?_
  refine o_move (e_t (e_m4 rfl (e_m4 rfl (e_m2 rfl h1)))) ?_
  refine g_run (e_miss rfl e_hit) ?_
  obtain ⟨v11, hc_v11, hr⟩ := bind_some hr
  refine o_call (a_cons (e_t e_hit) fz_d a_nil) ?_
  refine c_affluxref12_Free n p1 hc_v11 ?_
  refine g_run (e_m4 rfl (e_m4 rfl (e_m2 rfl e_hit))) ?_
  refine o_pick_t (e_t (e_m2 rfl e_hit)) (e_t e_hit) ?_
  refine g_run (e_m4 rfl (e_m4 rfl (e_m2 rfl (e_miss rfl e_hit)))) ?_
  refine o_eqB (e_t (e_m4 rfl (e_m2 rfl (e_miss rfl e_hit)))) (e_t e_hit) ?_
  refine o_pick_t (e_t (e_m4 rfl (e_m4 rfl (e_m4 rfl e_hit)))) (e_t e_hit) ?_
  refine run_nil ?_
  exact ⟨(v9 == v11), hr, e_hit, rfl⟩
end Go.Ax
