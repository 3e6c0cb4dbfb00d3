import Derived.Test.YtojkpenjeglipaaYT
import Derived.Test.YtojkpenjeglipaaVX
import Derived.Test.YtojkpenjeglipaaPrim
import Derived.Test.YtojkpenjeglipaaYD2
import Derived.Test.YtojkpenjeglipaaYD5
set_option linter.unusedVariables false
set_option linter.unusedSimpArgs false
namespace Go.Ax
attribute [local irreducible] xexec xops xpre xrun xacc thenX inBlockX RetK XLoop upd ev u0 frzA frz asRows binK mmD bnd okAll fillP fillOk rowsOf toDs frz1 pack cutV tokC tokArgs
variable {st : List Content}

def d_syntax_fields_j2 (p0 : T_api_Expr) (v3 : Bool) : Option Bool :=
  (bif v3 then some (decide ((⟨#[]⟩ : ByteArray) = p0.Src)) else some false)
def d_syntax_fields_j1 (p0 : T_api_Expr) (v2 : Bool) : Option Bool :=
  (bif v2 then (d_syntax_fields_j2 p0 (decide ((⟨#[]⟩ : ByteArray) = p0.Name))) else (d_syntax_fields_j2 p0 false))
def d_syntax_fields_j0 (p0 : T_api_Expr) (v1 : Bool) : Option Bool :=
  (bif v1 then (d_syntax_fields_j1 p0 (decide ((⟨#[]⟩ : ByteArray) = p0.S))) else (d_syntax_fields_j1 p0 false))
def d_syntax_fields_j5 (p0 : T_api_Expr) (v6 : Bool) : Option Bool :=
  (bif v6 then some (decide ((⟨#[]⟩ : ByteArray) = p0.Src)) else some false)
def d_syntax_fields_j4 (p0 : T_api_Expr) (v5 : Bool) : Option Bool :=
  (bif v5 then (d_syntax_fields_j5 p0 (decide ((⟨#[]⟩ : ByteArray) = p0.Name))) else (d_syntax_fields_j5 p0 false))
def d_syntax_fields_j3 (p0 : T_api_Expr) (v4 : Bool) : Option Bool :=
  (bif v4 then (d_syntax_fields_j4 p0 (decide (p0.S = p0.S))) else (d_syntax_fields_j4 p0 false))
def d_syntax_fields_j8 (p0 : T_api_Expr) (v9 : Bool) : Option Bool :=
  (bif v9 then some (decide ((⟨#[]⟩ : ByteArray) = p0.Src)) else some false)
def d_syntax_fields_j7 (p0 : T_api_Expr) (v8 : Bool) : Option Bool :=
  (bif v8 then (d_syntax_fields_j8 p0 (decide ((⟨#[]⟩ : ByteArray) = p0.Name))) else (d_syntax_fields_j8 p0 false))
def d_syntax_fields_j6 (p0 : T_api_Expr) (v7 : Bool) : Option Bool :=
  (bif v7 then (d_syntax_fields_j7 p0 (decide ((⟨#[]⟩ : ByteArray) = p0.S))) else (d_syntax_fields_j7 p0 false))
def d_syntax_fields_j11 (p0 : T_api_Expr) (v13 : Bool) : Option Bool :=
  (bif v13 then some (decide ((⟨#[]⟩ : ByteArray) = p0.Src)) else some false)
def d_syntax_fields_j10 (p0 : T_api_Expr) (v12 : Bool) : Option Bool :=
  (bif v12 then (d_syntax_fields_j11 p0 (decide (p0.Name = p0.Name))) else (d_syntax_fields_j11 p0 false))
def d_syntax_fields_j9 (p0 : T_api_Expr) (v11 : Bool) : Option Bool :=
  (bif v11 then (d_syntax_fields_j10 p0 (decide ((⟨#[]⟩ : ByteArray) = p0.S))) else (d_syntax_fields_j10 p0 false))
def d_syntax_fields_j14 (p0 : T_api_Expr) (v17 : Bool) : Option Bool :=
  (bif v17 then some (decide ((⟨#[]⟩ : ByteArray) = p0.Src)) else some false)
def d_syntax_fields_j13 (p0 : T_api_Expr) (v16 : Bool) : Option Bool :=
  (bif v16 then (d_syntax_fields_j14 p0 (decide (p0.Name = p0.Name))) else (d_syntax_fields_j14 p0 false))
def d_syntax_fields_j12 (p0 : T_api_Expr) (v15 : Bool) : Option Bool :=
  (bif v15 then (d_syntax_fields_j13 p0 (decide (p0.S = p0.S))) else (d_syntax_fields_j13 p0 false))
def d_syntax_fields_j17 (p0 : T_api_Expr) (v21 : Bool) : Option Bool :=
  (bif v21 then some (decide (p0.Src = p0.Src)) else some false)
def d_syntax_fields_j16 (p0 : T_api_Expr) (v20 : Bool) : Option Bool :=
  (bif v20 then (d_syntax_fields_j17 p0 (decide (p0.Name = p0.Name))) else (d_syntax_fields_j17 p0 false))
def d_syntax_fields_j15 (p0 : T_api_Expr) (v19 : Bool) : Option Bool :=
  (bif v19 then (d_syntax_fields_j16 p0 (decide ((⟨#[]⟩ : ByteArray) = p0.S))) else (d_syntax_fields_j16 p0 false))
def d_syntax_fields_j19 (p0 : T_api_Expr) (v23 : Bool) : Option Bool :=
  (bif v23 then some (decide ((⟨#[]⟩ : ByteArray) = p0.Src)) else some false)
def d_syntax_fields_j18 (p0 : T_api_Expr) (v22 : Bool) : Option Bool :=
  (bif v22 then (d_syntax_fields_j19 p0 (decide ((⟨#[]⟩ : ByteArray) = p0.Name))) else (d_syntax_fields_j19 p0 false))
def d_syntax_fields (n : Nat) (p0 : T_api_Expr) : Option Bool :=
  (bif (decide (p0.Op = (1 : Int))) then (bif (decide ((0 : Int) ≤ p0.N)) then (d_syntax_fields_j0 p0 (decide (p0.N = p0.N))) else (d_syntax_fields_j0 p0 false)) else (bif (decide (p0.Op = (2 : Int))) then (bif (decide ((p0.S.size : Int) ≤ (200 : Int))) then (d_syntax_fields_j3 p0 (decide ((0 : Int) = p0.N))) else (d_syntax_fields_j3 p0 false)) else (bif (decide (p0.Op = (3 : Int))) then (bif (decide ((Int.fdiv p0.N (2 ^ (min (Int.toNat (1 : Int)) (IntKind.bits .i64)))) = (0 : Int))) then (d_syntax_fields_j6 p0 (decide (p0.N = p0.N))) else (d_syntax_fields_j6 p0 false)) else (bif (decide (p0.Op = (4 : Int))) then ((d_syntax_Free n ([p0.Name])).bind fun v10 => (bif v10 then (d_syntax_fields_j9 p0 (decide ((0 : Int) = p0.N))) else (d_syntax_fields_j9 p0 false))) else (bif (decide (p0.Op = (5 : Int))) then ((d_syntax_Free n ([p0.Name, p0.S])).bind fun v14 => (bif v14 then (d_syntax_fields_j12 p0 (decide ((0 : Int) = p0.N))) else (d_syntax_fields_j12 p0 false))) else (bif (d_syntax_args p0.Op).2 then ((d_syntax_Free n ([p0.Name, p0.Src])).bind fun v18 => (bif v18 then (d_syntax_fields_j15 p0 (decide ((0 : Int) = p0.N))) else (d_syntax_fields_j15 p0 false))) else (bif (decide ((0 : Int) = p0.N)) then (d_syntax_fields_j18 p0 (decide ((⟨#[]⟩ : ByteArray) = p0.S))) else (d_syntax_fields_j18 p0 false))))))))
set_option maxRecDepth 100000 in
set_option maxHeartbeats 4000000 in
theorem c_syntax_fields (n : Nat) (p0 : T_api_Expr) {r : Bool} (hr : d_syntax_fields n p0 = some r) {K : PV → List Content → Prop} (h : K (.d (.bool r)) st) : ACalls PR n_syntax_fields [(.agg [(.d (.int .i64 p0.Op)), (.d (.int .i64 p0.N)), (.d (.str p0.S)), (.d (.str p0.Name)), (.d (.str p0.Src)), (.d (.sl (List.map T_api_Expr.row p0.Args)))])] st K := by
  refine ACalls.of F_syntax_fields (Nat.le_of_ble_eq_true rfl) fun hwf => ?_
  rw [args0_1]
  refine entry_nil ?_
  unfold x_syntax_fields
  rw [d_syntax_fields] at hr
  refine x_seq ?_
  refine x_region ?_
  unfold x_syntax_fields_r0
  refine o_box (k := 0) rfl rfl (e_t e_hit) pc_agg (by exact rfl) ?_
  refine o_move e_c ?_
  refine run_nil ?_
  refine k_then ?_
  refine x_seq ?_
  refine x_region ?_
  unfold x_syntax_fields_r1
  refine o_fa (e_t (e_miss rfl e_hit)) (by exact rfl) ?_
  refine o_load (e_t e_hit) ((g_ext rfl 0).trans rfl) (by exact rfl) ?_
  refine o_call (a_cons (e_t e_hit) fz_d a_nil) ?_
  refine c_syntax_args p0.Op rfl ?_
  refine o_move (e_t e_hit) ?_
  refine o_ext (e_t e_hit) (by exact rfl) ?_
  refine o_ext (e_t (e_miss rfl e_hit)) (by exact rfl) ?_
  refine o_move (e_t (e_miss rfl e_hit)) ?_
  refine o_move (e_t (e_miss rfl e_hit)) ?_
  refine run_nil ?_
  refine k_then ?_
  refine x_seq ?_
  refine x_region ?_
  unfold x_syntax_fields_r2
  refine o_move e_c ?_
  refine run_nil ?_
  refine k_then ?_
  refine x_seq ?_
  refine x_region ?_
  unfold x_syntax_fields_r3
  refine o_alloc (k := 1) rfl rfl ?_
  refine run_nil ?_
  refine k_then ?_
  refine x_seq ?_
  refine x_block ?_
  refine x_seq ?_
  refine x_region ?_
  unfold x_syntax_fields_r4
  refine o_fa (e_t (e_m4 rfl (e_m4 rfl (e_m2 rfl (e_miss rfl e_hit))))) (by exact rfl) ?_
  refine o_load (e_t e_hit) ((g_ext rfl 0).trans rfl) (by exact rfl) ?_
  refine o_bin (e_t e_hit) e_c (b_eql ?_)
  refine o_move (e_t e_hit) ?_
  refine run_nil ?_
  refine k_then ?_
  refine x_condL (e_t e_hit) hr (fun hr => ?_) (fun hr => ?_)
  · refine x_regionS (k := 2) rfl rfl ?_
    unfold x_syntax_fields_r5
    refine o_fa (e_t (e_m4 rfl (e_m4 rfl (e_m4 rfl (e_m2 rfl (e_miss rfl e_hit)))))) (by exact rfl) ?_
    refine o_load (e_t e_hit) ((g_ext rfl 0).trans rfl) (by exact rfl) ?_
    refine o_bin (e_t e_hit) e_c (b_geqL ?_)
    refine o_fa (e_t (e_m4 rfl (e_m4 rfl (e_m4 rfl (e_m4 rfl (e_m2 rfl e_hit)))))) (by exact rfl) ?_
    refine o_load (e_t e_hit) ((g_ext rfl 0).trans rfl) (by exact rfl) ?_
    refine o_move (e_t (e_m2 rfl e_hit)) ?_
    refine o_fa (e_t (e_m4 rfl (e_m4 rfl (e_m2 rfl e_hit)))) (by exact rfl) ?_
    refine o_store (e_t e_hit) ((g_ext rfl 1).trans rfl) (e_t (e_m2 rfl e_hit)) pc_d rfl (Nat.le_of_ble_eq_true rfl) (by exact rfl) (cells' := [(.d (.int .i64 (0 : Int))), (.d (.int .i64 p0.N)), (.d (.str (⟨#[]⟩ : ByteArray))), (.d (.str (⟨#[]⟩ : ByteArray))), (.d (.str (⟨#[]⟩ : ByteArray))), (.ex [])]) (by exact rfl) (s_ext rfl _ _) ?_
    refine run_nil ?_
    refine k_inN ?_
    refine k_then ?_
    refine x_seq ?_
    refine x_region ?_
    unfold x_syntax_fields_r17
    refine run_join (fun f st' => ∃ (v1 : Bool), d_syntax_fields_j0 p0 v1 = some r ∧ f 1 = (.ptr (st.length + 0) 0) ∧ f 6 = (.ptr (st.length + 1) 0) ∧ f 93 = (.d (.bool v1)) ∧ st' = st ++ [(.box [(.d (.int .i64 p0.Op)), (.d (.int .i64 p0.N)), (.d (.str p0.S)), (.d (.str p0.Name)), (.d (.str p0.Src)), (.d (.sl (List.map T_api_Expr.row p0.Args)))]), (.box [(.d (.int .i64 (0 : Int))), (.d (.int .i64 p0.N)), (.d (.str (⟨#[]⟩ : ByteArray))), (.d (.str (⟨#[]⟩ : ByteArray))), (.d (.str (⟨#[]⟩ : ByteArray))), (.ex [])])]) ?_ ?_
    · unfold x_syntax_fields_r17s0
      refine o_move (e_t (e_miss rfl e_hit)) ?_
      refine o_move (e_t e_hit) ?_
      refine g_splitL e_hit hr (fun hr => ?_) (fun hr => ?_)
      rotate_left
      · refine g_skip e_hit ?_
        refine g_skip (e_miss rfl e_hit) ?_
        refine g_skip (e_m2 rfl e_hit) ?_
        refine g_skip (e_m2 rfl (e_miss rfl e_hit)) ?_
        refine g_skip (e_m4 rfl e_hit) ?_
        refine o_pick_f (e_t (e_m4 rfl (e_miss rfl e_hit))) e_c ?_
        refine run_nil ?_
        exact ⟨false, hr, (e_m4 rfl (e_m4 rfl (e_m4 rfl (e_m4 rfl (e_m4 rfl (e_m4 rfl (e_m4 rfl (e_m2 rfl (e_miss rfl e_hit))))))))), (e_m4 rfl (e_m4 rfl (e_m4 rfl (e_m4 rfl (e_m4 rfl e_hit))))), e_hit, rfl⟩
      refine g_run e_hit ?_
      refine o_fa (e_t (e_m4 rfl (e_m4 rfl (e_m4 rfl (e_m2 rfl e_hit))))) (by exact rfl) ?_
      refine g_run (e_miss rfl e_hit) ?_
      refine o_load (e_t e_hit) ((g_ext rfl 1).trans rfl) (by exact rfl) ?_
      refine g_run (e_m2 rfl e_hit) ?_
      refine o_fa (e_t (e_m4 rfl (e_m4 rfl (e_m4 rfl (e_m4 rfl (e_m4 rfl (e_m4 rfl (e_m2 rfl (e_miss rfl e_hit))))))))) (by exact rfl) ?_
      refine g_run (e_m2 rfl (e_miss rfl e_hit)) ?_
      refine o_load (e_t e_hit) ((g_ext rfl 0).trans rfl) (by exact rfl) ?_
      refine g_run (e_m4 rfl e_hit) ?_
      refine o_bin (e_t (e_m2 rfl e_hit)) (e_t e_hit) (b_eql ?_)
      refine o_pick_t (e_t (e_m4 rfl (e_miss rfl e_hit))) (e_t e_hit) ?_
      refine run_nil ?_
      exact ⟨(decide (p0.N = p0.N)), hr, (e_m4 rfl (e_m4 rfl (e_m4 rfl (e_m4 rfl (e_m4 rfl (e_m4 rfl (e_m4 rfl (e_m2 rfl (e_miss rfl e_hit))))))))), (e_m4 rfl (e_m4 rfl (e_m4 rfl (e_m4 rfl (e_m4 rfl e_hit))))), e_hit, rfl⟩
    rintro f st' ⟨v1, hr, h1, h6, h93, rfl⟩
    rw [d_syntax_fields_j0] at hr
    refine run_join (fun f st' => ∃ (v2 : Bool), d_syntax_fields_j1 p0 v2 = some r ∧ f 1 = (.ptr (st.length + 0) 0) ∧ f 6 = (.ptr (st.length + 1) 0) ∧ f 100 = (.d (.bool v2)) ∧ st' = st ++ [(.box [(.d (.int .i64 p0.Op)), (.d (.int .i64 p0.N)), (.d (.str p0.S)), (.d (.str p0.Name)), (.d (.str p0.Src)), (.d (.sl (List.map T_api_Expr.row p0.Args)))]), (.box [(.d (.int .i64 (0 : Int))), (.d (.int .i64 p0.N)), (.d (.str (⟨#[]⟩ : ByteArray))), (.d (.str (⟨#[]⟩ : ByteArray))), (.d (.str (⟨#[]⟩ : ByteArray))), (.ex [])])]) ?_ ?_
    · unfold x_syntax_fields_r17s1
      refine o_move (e_t h93) ?_
      refine g_splitL e_hit hr (fun hr => ?_) (fun hr => ?_)
      rotate_left
      · refine g_skip e_hit ?_
        refine g_skip (e_miss rfl e_hit) ?_
        refine g_skip (e_m2 rfl e_hit) ?_
        refine g_skip (e_m2 rfl (e_miss rfl e_hit)) ?_
        refine g_skip (e_m4 rfl e_hit) ?_
        refine o_pick_f (e_t (e_m4 rfl (e_miss rfl e_hit))) e_c ?_
        refine run_nil ?_
        exact ⟨false, hr, (e_m4 rfl (e_m4 rfl h1)), (e_m4 rfl (e_m4 rfl h6)), e_hit, rfl⟩
      refine g_run e_hit ?_
      refine o_fa (e_t (e_m2 rfl h6)) (by exact rfl) ?_
      refine g_run (e_miss rfl e_hit) ?_
      refine o_load (e_t e_hit) ((g_ext rfl 1).trans rfl) (by exact rfl) ?_
      refine g_run (e_m2 rfl e_hit) ?_
      refine o_fa (e_t (e_m4 rfl h1)) (by exact rfl) ?_
      refine g_run (e_m2 rfl (e_miss rfl e_hit)) ?_
      refine o_load (e_t e_hit) ((g_ext rfl 0).trans rfl) (by exact rfl) ?_
      refine g_run (e_m4 rfl e_hit) ?_
      refine o_bin (e_t (e_m2 rfl e_hit)) (e_t e_hit) (b_seql ?_)
      refine o_pick_t (e_t (e_m4 rfl (e_miss rfl e_hit))) (e_t e_hit) ?_
      refine run_nil ?_
      exact ⟨(decide ((⟨#[]⟩ : ByteArray) = p0.S)), hr, (e_m4 rfl (e_m4 rfl h1)), (e_m4 rfl (e_m4 rfl h6)), e_hit, rfl⟩
    rintro f st' ⟨v2, hr, h1, h6, h100, rfl⟩
    rw [d_syntax_fields_j1] at hr
    refine run_join (fun f st' => ∃ (v3 : Bool), d_syntax_fields_j2 p0 v3 = some r ∧ f 1 = (.ptr (st.length + 0) 0) ∧ f 6 = (.ptr (st.length + 1) 0) ∧ f 107 = (.d (.bool v3)) ∧ st' = st ++ [(.box [(.d (.int .i64 p0.Op)), (.d (.int .i64 p0.N)), (.d (.str p0.S)), (.d (.str p0.Name)), (.d (.str p0.Src)), (.d (.sl (List.map T_api_Expr.row p0.Args)))]), (.box [(.d (.int .i64 (0 : Int))), (.d (.int .i64 p0.N)), (.d (.str (⟨#[]⟩ : ByteArray))), (.d (.str (⟨#[]⟩ : ByteArray))), (.d (.str (⟨#[]⟩ : ByteArray))), (.ex [])])]) ?_ ?_
    · unfold x_syntax_fields_r17s2
      refine o_move (e_t h100) ?_
      refine g_splitL e_hit hr (fun hr => ?_) (fun hr => ?_)
      rotate_left
      · refine g_skip e_hit ?_
        refine g_skip (e_miss rfl e_hit) ?_
        refine g_skip (e_m2 rfl e_hit) ?_
        refine g_skip (e_m2 rfl (e_miss rfl e_hit)) ?_
        refine g_skip (e_m4 rfl e_hit) ?_
        refine o_pick_f (e_t (e_m4 rfl (e_miss rfl e_hit))) e_c ?_
        refine run_nil ?_
        exact ⟨false, hr, (e_m4 rfl (e_m4 rfl h1)), (e_m4 rfl (e_m4 rfl h6)), e_hit, rfl⟩
      refine g_run e_hit ?_
      refine o_fa (e_t (e_m2 rfl h6)) (by exact rfl) ?_
      refine g_run (e_miss rfl e_hit) ?_
      refine o_load (e_t e_hit) ((g_ext rfl 1).trans rfl) (by exact rfl) ?_
      refine g_run (e_m2 rfl e_hit) ?_
      refine o_fa (e_t (e_m4 rfl h1)) (by exact rfl) ?_
      refine g_run (e_m2 rfl (e_miss rfl e_hit)) ?_
      refine o_load (e_t e_hit) ((g_ext rfl 0).trans rfl) (by exact rfl) ?_
      refine g_run (e_m4 rfl e_hit) ?_
      refine o_bin (e_t (e_m2 rfl e_hit)) (e_t e_hit) (b_seql ?_)
      refine o_pick_t (e_t (e_m4 rfl (e_miss rfl e_hit))) (e_t e_hit) ?_
      refine run_nil ?_
      exact ⟨(decide ((⟨#[]⟩ : ByteArray) = p0.Name)), hr, (e_m4 rfl (e_m4 rfl h1)), (e_m4 rfl (e_m4 rfl h6)), e_hit, rfl⟩
    rintro f st' ⟨v3, hr, h1, h6, h107, rfl⟩
    rw [d_syntax_fields_j2] at hr
    refine run_app ?_
    unfold x_syntax_fields_r17s3
    refine o_move (e_t h107) ?_
    refine g_splitL e_hit hr (fun hr => ?_) (fun hr => ?_)
    rotate_left
    · refine g_skip e_hit ?_
      refine g_skip (e_miss rfl e_hit) ?_
      refine g_skip (e_m2 rfl e_hit) ?_
      refine g_skip (e_m2 rfl (e_miss rfl e_hit)) ?_
      refine g_skip (e_m4 rfl e_hit) ?_
      refine o_pick_f (e_t (e_m4 rfl (e_miss rfl e_hit))) e_c ?_
      refine run_nil ?_
      unfold x_syntax_fields_r17s4
      refine o_move (e_t e_hit) ?_
      refine run_nil ?_
      refine k_then ?_
      refine x_ret ?_
      cases hr
      exact retK (r_tmp e_hit r_nil) (p_one fz_d v_d) (cutS_wf hwf) h
    refine g_run e_hit ?_
    refine o_fa (e_t (e_m2 rfl h6)) (by exact rfl) ?_
    refine g_run (e_miss rfl e_hit) ?_
    refine o_load (e_t e_hit) ((g_ext rfl 1).trans rfl) (by exact rfl) ?_
    refine g_run (e_m2 rfl e_hit) ?_
    refine o_fa (e_t (e_m4 rfl h1)) (by exact rfl) ?_
    refine g_run (e_m2 rfl (e_miss rfl e_hit)) ?_
    refine o_load (e_t e_hit) ((g_ext rfl 0).trans rfl) (by exact rfl) ?_
    refine g_run (e_m4 rfl e_hit) ?_
    refine o_bin (e_t (e_m2 rfl e_hit)) (e_t e_hit) (b_seql ?_)
    refine o_pick_t (e_t (e_m4 rfl (e_miss rfl e_hit))) (e_t e_hit) ?_
    refine run_nil ?_
    unfold x_syntax_fields_r17s4
    refine o_move (e_t e_hit) ?_
    refine run_nil ?_
    refine k_then ?_
    refine x_ret ?_
    cases hr
    exact retK (r_tmp e_hit r_nil) (p_one fz_d v_d) (cutS_wf hwf) h
  refine x_seq ?_
  refine x_region ?_
  unfold x_syntax_fields_r6
  refine o_fa (e_t (e_m4 rfl (e_m4 rfl (e_m4 rfl (e_m2 rfl (e_miss rfl e_hit)))))) (by exact rfl) ?_
  refine o_load (e_t e_hit) ((g_ext rfl 0).trans rfl) (by exact rfl) ?_
  refine o_bin (e_t e_hit) e_c (b_eql ?_)
  refine o_move (e_t e_hit) ?_
  refine run_nil ?_
  refine k_then ?_
  refine x_condL (e_t e_hit) hr (fun hr => ?_) (fun hr => ?_)
  · refine x_regionS (k := 2) rfl rfl ?_
    unfold x_syntax_fields_r7
    refine o_fa (e_t (e_m4 rfl (e_m4 rfl (e_m4 rfl (e_m4 rfl (e_m2 rfl (e_miss rfl e_hit))))))) (by exact rfl) ?_
    refine o_load (e_t e_hit) ((g_ext rfl 0).trans rfl) (by exact rfl) ?_
    refine o_lenS (e_t e_hit) ?_
    refine o_bin (e_t e_hit) e_c (b_leq ?_)
    refine o_fa (e_t (e_m4 rfl (e_m4 rfl (e_m4 rfl (e_m4 rfl (e_m4 rfl (e_m2 rfl (e_miss rfl e_hit)))))))) (by exact rfl) ?_
    refine o_load (e_t e_hit) ((g_ext rfl 0).trans rfl) (by exact rfl) ?_
    refine o_move (e_t (e_m2 rfl e_hit)) ?_
    refine o_fa (e_t (e_m4 rfl (e_m4 rfl (e_m4 rfl (e_m2 rfl (e_miss rfl e_hit)))))) (by exact rfl) ?_
    refine o_store (e_t e_hit) ((g_ext rfl 1).trans rfl) (e_t (e_m2 rfl e_hit)) pc_d rfl (Nat.le_of_ble_eq_true rfl) (by exact rfl) (cells' := [(.d (.int .i64 (0 : Int))), (.d (.int .i64 (0 : Int))), (.d (.str p0.S)), (.d (.str (⟨#[]⟩ : ByteArray))), (.d (.str (⟨#[]⟩ : ByteArray))), (.ex [])]) (by exact rfl) (s_ext rfl _ _) ?_
    refine run_nil ?_
    refine k_inN ?_
    refine k_then ?_
    refine x_seq ?_
    refine x_region ?_
    unfold x_syntax_fields_r17
    refine run_join (fun f st' => ∃ (v4 : Bool), d_syntax_fields_j3 p0 v4 = some r ∧ f 1 = (.ptr (st.length + 0) 0) ∧ f 6 = (.ptr (st.length + 1) 0) ∧ f 93 = (.d (.bool v4)) ∧ st' = st ++ [(.box [(.d (.int .i64 p0.Op)), (.d (.int .i64 p0.N)), (.d (.str p0.S)), (.d (.str p0.Name)), (.d (.str p0.Src)), (.d (.sl (List.map T_api_Expr.row p0.Args)))]), (.box [(.d (.int .i64 (0 : Int))), (.d (.int .i64 (0 : Int))), (.d (.str p0.S)), (.d (.str (⟨#[]⟩ : ByteArray))), (.d (.str (⟨#[]⟩ : ByteArray))), (.ex [])])]) ?_ ?_
    · unfold x_syntax_fields_r17s0
      refine o_move (e_t (e_miss rfl e_hit)) ?_
      refine o_move (e_t e_hit) ?_
      refine g_splitL e_hit hr (fun hr => ?_) (fun hr => ?_)
      rotate_left
      · refine g_skip e_hit ?_
        refine g_skip (e_miss rfl e_hit) ?_
        refine g_skip (e_m2 rfl e_hit) ?_
        refine g_skip (e_m2 rfl (e_miss rfl e_hit)) ?_
        refine g_skip (e_m4 rfl e_hit) ?_
        refine o_pick_f (e_t (e_m4 rfl (e_miss rfl e_hit))) e_c ?_
        refine run_nil ?_
        exact ⟨false, hr, (e_m4 rfl (e_m4 rfl (e_m4 rfl (e_m4 rfl (e_m4 rfl (e_m4 rfl (e_m4 rfl (e_m4 rfl (e_m4 rfl e_hit))))))))), (e_m4 rfl (e_m4 rfl (e_m4 rfl (e_m4 rfl (e_m4 rfl (e_m4 rfl (e_miss rfl e_hit))))))), e_hit, rfl⟩
      refine g_run e_hit ?_
      refine o_fa (e_t (e_m4 rfl (e_m4 rfl (e_m4 rfl (e_m4 rfl (e_m2 rfl (e_miss rfl e_hit))))))) (by exact rfl) ?_
      refine g_run (e_miss rfl e_hit) ?_
      refine o_load (e_t e_hit) ((g_ext rfl 1).trans rfl) (by exact rfl) ?_
      refine g_run (e_m2 rfl e_hit) ?_
      refine o_fa (e_t (e_m4 rfl (e_m4 rfl (e_m4 rfl (e_m4 rfl (e_m4 rfl (e_m4 rfl (e_m4 rfl (e_m4 rfl e_hit))))))))) (by exact rfl) ?_
      refine g_run (e_m2 rfl (e_miss rfl e_hit)) ?_
      refine o_load (e_t e_hit) ((g_ext rfl 0).trans rfl) (by exact rfl) ?_
      refine g_run (e_m4 rfl e_hit) ?_
      refine o_bin (e_t (e_m2 rfl e_hit)) (e_t e_hit) (b_eql ?_)
      refine o_pick_t (e_t (e_m4 rfl (e_miss rfl e_hit))) (e_t e_hit) ?_
      refine run_nil ?_
      exact ⟨(decide ((0 : Int) = p0.N)), hr, (e_m4 rfl (e_m4 rfl (e_m4 rfl (e_m4 rfl (e_m4 rfl (e_m4 rfl (e_m4 rfl (e_m4 rfl (e_m4 rfl e_hit))))))))), (e_m4 rfl (e_m4 rfl (e_m4 rfl (e_m4 rfl (e_m4 rfl (e_m4 rfl (e_miss rfl e_hit))))))), e_hit, rfl⟩
    rintro f st' ⟨v4, hr, h1, h6, h93, rfl⟩
    rw [d_syntax_fields_j3] at hr
    refine run_join (fun f st' => ∃ (v5 : Bool), d_syntax_fields_j4 p0 v5 = some r ∧ f 1 = (.ptr (st.length + 0) 0) ∧ f 6 = (.ptr (st.length + 1) 0) ∧ f 100 = (.d (.bool v5)) ∧ st' = st ++ [(.box [(.d (.int .i64 p0.Op)), (.d (.int .i64 p0.N)), (.d (.str p0.S)), (.d (.str p0.Name)), (.d (.str p0.Src)), (.d (.sl (List.map T_api_Expr.row p0.Args)))]), (.box [(.d (.int .i64 (0 : Int))), (.d (.int .i64 (0 : Int))), (.d (.str p0.S)), (.d (.str (⟨#[]⟩ : ByteArray))), (.d (.str (⟨#[]⟩ : ByteArray))), (.ex [])])]) ?_ ?_
    · unfold x_syntax_fields_r17s1
      refine o_move (e_t h93) ?_
      refine g_splitL e_hit hr (fun hr => ?_) (fun hr => ?_)
      rotate_left
      · refine g_skip e_hit ?_
        refine g_skip (e_miss rfl e_hit) ?_
        refine g_skip (e_m2 rfl e_hit) ?_
        refine g_skip (e_m2 rfl (e_miss rfl e_hit)) ?_
        refine g_skip (e_m4 rfl e_hit) ?_
        refine o_pick_f (e_t (e_m4 rfl (e_miss rfl e_hit))) e_c ?_
        refine run_nil ?_
        exact ⟨false, hr, (e_m4 rfl (e_m4 rfl h1)), (e_m4 rfl (e_m4 rfl h6)), e_hit, rfl⟩
      refine g_run e_hit ?_
      refine o_fa (e_t (e_m2 rfl h6)) (by exact rfl) ?_
      refine g_run (e_miss rfl e_hit) ?_
      refine o_load (e_t e_hit) ((g_ext rfl 1).trans rfl) (by exact rfl) ?_
      refine g_run (e_m2 rfl e_hit) ?_
      refine o_fa (e_t (e_m4 rfl h1)) (by exact rfl) ?_
      refine g_run (e_m2 rfl (e_miss rfl e_hit)) ?_
      refine o_load (e_t e_hit) ((g_ext rfl 0).trans rfl) (by exact rfl) ?_
      refine g_run (e_m4 rfl e_hit) ?_
      refine o_bin (e_t (e_m2 rfl e_hit)) (e_t e_hit) (b_seql ?_)
      refine o_pick_t (e_t (e_m4 rfl (e_miss rfl e_hit))) (e_t e_hit) ?_
      refine run_nil ?_
      exact ⟨(decide (p0.S = p0.S)), hr, (e_m4 rfl (e_m4 rfl h1)), (e_m4 rfl (e_m4 rfl h6)), e_hit, rfl⟩
    rintro f st' ⟨v5, hr, h1, h6, h100, rfl⟩
    rw [d_syntax_fields_j4] at hr
    refine run_join (fun f st' => ∃ (v6 : Bool), d_syntax_fields_j5 p0 v6 = some r ∧ f 1 = (.ptr (st.length + 0) 0) ∧ f 6 = (.ptr (st.length + 1) 0) ∧ f 107 = (.d (.bool v6)) ∧ st' = st ++ [(.box [(.d (.int .i64 p0.Op)), (.d (.int .i64 p0.N)), (.d (.str p0.S)), (.d (.str p0.Name)), (.d (.str p0.Src)), (.d (.sl (List.map T_api_Expr.row p0.Args)))]), (.box [(.d (.int .i64 (0 : Int))), (.d (.int .i64 (0 : Int))), (.d (.str p0.S)), (.d (.str (⟨#[]⟩ : ByteArray))), (.d (.str (⟨#[]⟩ : ByteArray))), (.ex [])])]) ?_ ?_
    · unfold x_syntax_fields_r17s2
      refine o_move (e_t h100) ?_
      refine g_splitL e_hit hr (fun hr => ?_) (fun hr => ?_)
      rotate_left
      · refine g_skip e_hit ?_
        refine g_skip (e_miss rfl e_hit) ?_
        refine g_skip (e_m2 rfl e_hit) ?_
        refine g_skip (e_m2 rfl (e_miss rfl e_hit)) ?_
        refine g_skip (e_m4 rfl e_hit) ?_
        refine o_pick_f (e_t (e_m4 rfl (e_miss rfl e_hit))) e_c ?_
        refine run_nil ?_
        exact ⟨false, hr, (e_m4 rfl (e_m4 rfl h1)), (e_m4 rfl (e_m4 rfl h6)), e_hit, rfl⟩
      refine g_run e_hit ?_
      refine o_fa (e_t (e_m2 rfl h6)) (by exact rfl) ?_
      refine g_run (e_miss rfl e_hit) ?_
      refine o_load (e_t e_hit) ((g_ext rfl 1).trans rfl) (by exact rfl) ?_
      refine g_run (e_m2 rfl e_hit) ?_
      refine o_fa (e_t (e_m4 rfl h1)) (by exact rfl) ?_
      refine g_run (e_m2 rfl (e_miss rfl e_hit)) ?_
      refine o_load (e_t e_hit) ((g_ext rfl 0).trans rfl) (by exact rfl) ?_
      refine g_run (e_m4 rfl e_hit) ?_
      refine o_bin (e_t (e_m2 rfl e_hit)) (e_t e_hit) (b_seql ?_)
      refine o_pick_t (e_t (e_m4 rfl (e_miss rfl e_hit))) (e_t e_hit) ?_
      refine run_nil ?_
      exact ⟨(decide ((⟨#[]⟩ : ByteArray) = p0.Name)), hr, (e_m4 rfl (e_m4 rfl h1)), (e_m4 rfl (e_m4 rfl h6)), e_hit, rfl⟩
    rintro f st' ⟨v6, hr, h1, h6, h107, rfl⟩
    rw [d_syntax_fields_j5] at hr
    refine run_app ?_
    unfold x_syntax_fields_r17s3
    refine o_move (e_t h107) ?_
    refine g_splitL e_hit hr (fun hr => ?_) (fun hr => ?_)
    rotate_left
    · refine g_skip e_hit ?_
      refine g_skip (e_miss rfl e_hit) ?_
      refine g_skip (e_m2 rfl e_hit) ?_
      refine g_skip (e_m2 rfl (e_miss rfl e_hit)) ?_
      refine g_skip (e_m4 rfl e_hit) ?_
      refine o_pick_f (e_t (e_m4 rfl (e_miss rfl e_hit))) e_c ?_
      refine run_nil ?_
      unfold x_syntax_fields_r17s4
      refine o_move (e_t e_hit) ?_
      refine run_nil ?_
      refine k_then ?_
      refine x_ret ?_
      cases hr
      exact retK (r_tmp e_hit r_nil) (p_one fz_d v_d) (cutS_wf hwf) h
    refine g_run e_hit ?_
    refine o_fa (e_t (e_m2 rfl h6)) (by exact rfl) ?_
    refine g_run (e_miss rfl e_hit) ?_
    refine o_load (e_t e_hit) ((g_ext rfl 1).trans rfl) (by exact rfl) ?_
    refine g_run (e_m2 rfl e_hit) ?_
    refine o_fa (e_t (e_m4 rfl h1)) (by exact rfl) ?_
    refine g_run (e_m2 rfl (e_miss rfl e_hit)) ?_
    refine o_load (e_t e_hit) ((g_ext rfl 0).trans rfl) (by exact rfl) ?_
    refine g_run (e_m4 rfl e_hit) ?_
    refine o_bin (e_t (e_m2 rfl e_hit)) (e_t e_hit) (b_seql ?_)
    refine o_pick_t (e_t (e_m4 rfl (e_miss rfl e_hit))) (e_t e_hit) ?_
    refine run_nil ?_
    unfold x_syntax_fields_r17s4
    refine o_move (e_t e_hit) ?_
    refine run_nil ?_
    refine k_then ?_
    refine x_ret ?_
    cases hr
    exact retK (r_tmp e_hit r_nil) (p_one fz_d v_d) (cutS_wf hwf) h
  refine x_seq ?_
  refine x_region ?_
  unfold x_syntax_fields_r8
  refine o_fa (e_t (e_m4 rfl (e_m4 rfl (e_m4 rfl (e_m4 rfl (e_m2 rfl (e_miss rfl e_hit))))))) (by exact rfl) ?_
  refine o_load (e_t e_hit) ((g_ext rfl 0).trans rfl) (by exact rfl) ?_
  refine o_bin (e_t e_hit) e_c (b_eql ?_)
  refine o_move (e_t e_hit) ?_
  refine run_nil ?_
  refine k_then ?_
  refine x_condL (e_t e_hit) hr (fun hr => ?_) (fun hr => ?_)
  · refine x_regionS (k := 2) rfl rfl ?_
    unfold x_syntax_fields_r9
    refine o_fa (e_t (e_m4 rfl (e_m4 rfl (e_m4 rfl (e_m4 rfl (e_m4 rfl (e_m2 rfl (e_miss rfl e_hit)))))))) (by exact rfl) ?_
    refine o_load (e_t e_hit) ((g_ext rfl 0).trans rfl) (by exact rfl) ?_
    refine o_bin (e_t e_hit) e_c (b_shr (by decide) ?_)
    refine o_bin (e_t e_hit) e_c (b_eql ?_)
    refine o_fa (e_t (e_m4 rfl (e_m4 rfl (e_m4 rfl (e_m4 rfl (e_m4 rfl (e_m4 rfl (e_m2 rfl (e_miss rfl e_hit))))))))) (by exact rfl) ?_
    refine o_load (e_t e_hit) ((g_ext rfl 0).trans rfl) (by exact rfl) ?_
    refine o_move (e_t (e_m2 rfl e_hit)) ?_
    refine o_fa (e_t (e_m4 rfl (e_m4 rfl (e_m4 rfl (e_m4 rfl (e_m2 rfl (e_miss rfl e_hit))))))) (by exact rfl) ?_
    refine o_store (e_t e_hit) ((g_ext rfl 1).trans rfl) (e_t (e_m2 rfl e_hit)) pc_d rfl (Nat.le_of_ble_eq_true rfl) (by exact rfl) (cells' := [(.d (.int .i64 (0 : Int))), (.d (.int .i64 p0.N)), (.d (.str (⟨#[]⟩ : ByteArray))), (.d (.str (⟨#[]⟩ : ByteArray))), (.d (.str (⟨#[]⟩ : ByteArray))), (.ex [])]) (by exact rfl) (s_ext rfl _ _) ?_
    refine run_nil ?_
    refine k_inN ?_
    refine k_then ?_
    refine x_seq ?_
    refine x_region ?_
    unfold x_syntax_fields_r17
    refine run_join (fun f st' => ∃ (v7 : Bool), d_syntax_fields_j6 p0 v7 = some r ∧ f 1 = (.ptr (st.length + 0) 0) ∧ f 6 = (.ptr (st.length + 1) 0) ∧ f 93 = (.d (.bool v7)) ∧ st' = st ++ [(.box [(.d (.int .i64 p0.Op)), (.d (.int .i64 p0.N)), (.d (.str p0.S)), (.d (.str p0.Name)), (.d (.str p0.Src)), (.d (.sl (List.map T_api_Expr.row p0.Args)))]), (.box [(.d (.int .i64 (0 : Int))), (.d (.int .i64 p0.N)), (.d (.str (⟨#[]⟩ : ByteArray))), (.d (.str (⟨#[]⟩ : ByteArray))), (.d (.str (⟨#[]⟩ : ByteArray))), (.ex [])])]) ?_ ?_
    · unfold x_syntax_fields_r17s0
      refine o_move (e_t (e_miss rfl e_hit)) ?_
      refine o_move (e_t e_hit) ?_
      refine g_splitL e_hit hr (fun hr => ?_) (fun hr => ?_)
      rotate_left
      · refine g_skip e_hit ?_
        refine g_skip (e_miss rfl e_hit) ?_
        refine g_skip (e_m2 rfl e_hit) ?_
        refine g_skip (e_m2 rfl (e_miss rfl e_hit)) ?_
        refine g_skip (e_m4 rfl e_hit) ?_
        refine o_pick_f (e_t (e_m4 rfl (e_miss rfl e_hit))) e_c ?_
        refine run_nil ?_
        exact ⟨false, hr, (e_m4 rfl (e_m4 rfl (e_m4 rfl (e_m4 rfl (e_m4 rfl (e_m4 rfl (e_m4 rfl (e_m4 rfl (e_m4 rfl (e_m4 rfl e_hit)))))))))), (e_m4 rfl (e_m4 rfl (e_m4 rfl (e_m4 rfl (e_m4 rfl (e_m4 rfl (e_m4 rfl (e_miss rfl e_hit)))))))), e_hit, rfl⟩
      refine g_run e_hit ?_
      refine o_fa (e_t (e_m4 rfl (e_m4 rfl (e_m4 rfl (e_m4 rfl (e_m4 rfl (e_m2 rfl (e_miss rfl e_hit)))))))) (by exact rfl) ?_
      refine g_run (e_miss rfl e_hit) ?_
      refine o_load (e_t e_hit) ((g_ext rfl 1).trans rfl) (by exact rfl) ?_
      refine g_run (e_m2 rfl e_hit) ?_
      refine o_fa (e_t (e_m4 rfl (e_m4 rfl (e_m4 rfl (e_m4 rfl (e_m4 rfl (e_m4 rfl (e_m4 rfl (e_m4 rfl (e_m4 rfl e_hit)))))))))) (by exact rfl) ?_
      refine g_run (e_m2 rfl (e_miss rfl e_hit)) ?_
      refine o_load (e_t e_hit) ((g_ext rfl 0).trans rfl) (by exact rfl) ?_
      refine g_run (e_m4 rfl e_hit) ?_
      refine o_bin (e_t (e_m2 rfl e_hit)) (e_t e_hit) (b_eql ?_)
      refine o_pick_t (e_t (e_m4 rfl (e_miss rfl e_hit))) (e_t e_hit) ?_
      refine run_nil ?_
      exact ⟨(decide (p0.N = p0.N)), hr, (e_m4 rfl (e_m4 rfl (e_m4 rfl (e_m4 rfl (e_m4 rfl (e_m4 rfl (e_m4 rfl (e_m4 rfl (e_m4 rfl (e_m4 rfl e_hit)))))))))), (e_m4 rfl (e_m4 rfl (e_m4 rfl (e_m4 rfl (e_m4 rfl (e_m4 rfl (e_m4 rfl (e_miss rfl e_hit)))))))), e_hit, rfl⟩
    rintro f st' ⟨v7, hr, h1, h6, h93, rfl⟩
    rw [d_syntax_fields_j6] at hr
    refine run_join (fun f st' => ∃ (v8 : Bool), d_syntax_fields_j7 p0 v8 = some r ∧ f 1 = (.ptr (st.length + 0) 0) ∧ f 6 = (.ptr (st.length + 1) 0) ∧ f 100 = (.d (.bool v8)) ∧ st' = st ++ [(.box [(.d (.int .i64 p0.Op)), (.d (.int .i64 p0.N)), (.d (.str p0.S)), (.d (.str p0.Name)), (.d (.str p0.Src)), (.d (.sl (List.map T_api_Expr.row p0.Args)))]), (.box [(.d (.int .i64 (0 : Int))), (.d (.int .i64 p0.N)), (.d (.str (⟨#[]⟩ : ByteArray))), (.d (.str (⟨#[]⟩ : ByteArray))), (.d (.str (⟨#[]⟩ : ByteArray))), (.ex [])])]) ?_ ?_
    · unfold x_syntax_fields_r17s1
      refine o_move (e_t h93) ?_
      refine g_splitL e_hit hr (fun hr => ?_) (fun hr => ?_)
      rotate_left
      · refine g_skip e_hit ?_
        refine g_skip (e_miss rfl e_hit) ?_
        refine g_skip (e_m2 rfl e_hit) ?_
        refine g_skip (e_m2 rfl (e_miss rfl e_hit)) ?_
        refine g_skip (e_m4 rfl e_hit) ?_
        refine o_pick_f (e_t (e_m4 rfl (e_miss rfl e_hit))) e_c ?_
        refine run_nil ?_
        exact ⟨false, hr, (e_m4 rfl (e_m4 rfl h1)), (e_m4 rfl (e_m4 rfl h6)), e_hit, rfl⟩
      refine g_run e_hit ?_
      refine o_fa (e_t (e_m2 rfl h6)) (by exact rfl) ?_
      refine g_run (e_miss rfl e_hit) ?_
      refine o_load (e_t e_hit) ((g_ext rfl 1).trans rfl) (by exact rfl) ?_
      refine g_run (e_m2 rfl e_hit) ?_
      refine o_fa (e_t (e_m4 rfl h1)) (by exact rfl) ?_
      refine g_run (e_m2 rfl (e_miss rfl e_hit)) ?_
      refine o_load (e_t e_hit) ((g_ext rfl 0).trans rfl) (by exact rfl) ?_
      refine g_run (e_m4 rfl e_hit) ?_
      refine o_bin (e_t (e_m2 rfl e_hit)) (e_t e_hit) (b_seql ?_)
      refine o_pick_t (e_t (e_m4 rfl (e_miss rfl e_hit))) (e_t e_hit) ?_
      refine run_nil ?_
      exact ⟨(decide ((⟨#[]⟩ : ByteArray) = p0.S)), hr, (e_m4 rfl (e_m4 rfl h1)), (e_m4 rfl (e_m4 rfl h6)), e_hit, rfl⟩
    rintro f st' ⟨v8, hr, h1, h6, h100, rfl⟩
    rw [d_syntax_fields_j7] at hr
    refine run_join (fun f st' => ∃ (v9 : Bool), d_syntax_fields_j8 p0 v9 = some r ∧ f 1 = (.ptr (st.length + 0) 0) ∧ f 6 = (.ptr (st.length + 1) 0) ∧ f 107 = (.d (.bool v9)) ∧ st' = st ++ [(.box [(.d (.int .i64 p0.Op)), (.d (.int .i64 p0.N)), (.d (.str p0.S)), (.d (.str p0.Name)), (.d (.str p0.Src)), (.d (.sl (List.map T_api_Expr.row p0.Args)))]), (.box [(.d (.int .i64 (0 : Int))), (.d (.int .i64 p0.N)), (.d (.str (⟨#[]⟩ : ByteArray))), (.d (.str (⟨#[]⟩ : ByteArray))), (.d (.str (⟨#[]⟩ : ByteArray))), (.ex [])])]) ?_ ?_
    · unfold x_syntax_fields_r17s2
      refine o_move (e_t h100) ?_
      refine g_splitL e_hit hr (fun hr => ?_) (fun hr => ?_)
      rotate_left
      · refine g_skip e_hit ?_
        refine g_skip (e_miss rfl e_hit) ?_
        refine g_skip (e_m2 rfl e_hit) ?_
        refine g_skip (e_m2 rfl (e_miss rfl e_hit)) ?_
        refine g_skip (e_m4 rfl e_hit) ?_
        refine o_pick_f (e_t (e_m4 rfl (e_miss rfl e_hit))) e_c ?_
        refine run_nil ?_
        exact ⟨false, hr, (e_m4 rfl (e_m4 rfl h1)), (e_m4 rfl (e_m4 rfl h6)), e_hit, rfl⟩
      refine g_run e_hit ?_
      refine o_fa (e_t (e_m2 rfl h6)) (by exact rfl) ?_
      refine g_run (e_miss rfl e_hit) ?_
      refine o_load (e_t e_hit) ((g_ext rfl 1).trans rfl) (by exact rfl) ?_
      refine g_run (e_m2 rfl e_hit) ?_
      refine o_fa (e_t (e_m4 rfl h1)) (by exact rfl) ?_
      refine g_run (e_m2 rfl (e_miss rfl e_hit)) ?_
      refine o_load (e_t e_hit) ((g_ext rfl 0).trans rfl) (by exact rfl) ?_
      refine g_run (e_m4 rfl e_hit) ?_
      refine o_bin (e_t (e_m2 rfl e_hit)) (e_t e_hit) (b_seql ?_)
      refine o_pick_t (e_t (e_m4 rfl (e_miss rfl e_hit))) (e_t e_hit) ?_
      refine run_nil ?_
      exact ⟨(decide ((⟨#[]⟩ : ByteArray) = p0.Name)), hr, (e_m4 rfl (e_m4 rfl h1)), (e_m4 rfl (e_m4 rfl h6)), e_hit, rfl⟩
    rintro f st' ⟨v9, hr, h1, h6, h107, rfl⟩
    rw [d_syntax_fields_j8] at hr
    refine run_app ?_
    unfold x_syntax_fields_r17s3
    refine o_move (e_t h107) ?_
    refine g_splitL e_hit hr (fun hr => ?_) (fun hr => ?_)
    rotate_left
    · refine g_skip e_hit ?_
      refine g_skip (e_miss rfl e_hit) ?_
      refine g_skip (e_m2 rfl e_hit) ?_
      refine g_skip (e_m2 rfl (e_miss rfl e_hit)) ?_
      refine g_skip (e_m4 rfl e_hit) ?_
      refine o_pick_f (e_t (e_m4 rfl (e_miss rfl e_hit))) e_c ?_
      refine run_nil ?_
      unfold x_syntax_fields_r17s4
      refine o_move (e_t e_hit) ?_
      refine run_nil ?_
      refine k_then ?_
      refine x_ret ?_
      cases hr
      exact retK (r_tmp e_hit r_nil) (p_one fz_d v_d) (cutS_wf hwf) h
    refine g_run e_hit ?_
    refine o_fa (e_t (e_m2 rfl h6)) (by exact rfl) ?_
    refine g_run (e_miss rfl e_hit) ?_
    refine o_load (e_t e_hit) ((g_ext rfl 1).trans rfl) (by exact rfl) ?_
    refine g_run (e_m2 rfl e_hit) ?_
    refine o_fa (e_t (e_m4 rfl h1)) (by exact rfl) ?_
    refine g_run (e_m2 rfl (e_miss rfl e_hit)) ?_
    refine o_load (e_t e_hit) ((g_ext rfl 0).trans rfl) (by exact rfl) ?_
    refine g_run (e_m4 rfl e_hit) ?_
    refine o_bin (e_t (e_m2 rfl e_hit)) (e_t e_hit) (b_seql ?_)
    refine o_pick_t (e_t (e_m4 rfl (e_miss rfl e_hit))) (e_t e_hit) ?_
    refine run_nil ?_
    unfold x_syntax_fields_r17s4
    refine o_move (e_t e_hit) ?_
    refine run_nil ?_
    refine k_then ?_
    refine x_ret ?_
    cases hr
    exact retK (r_tmp e_hit r_nil) (p_one fz_d v_d) (cutS_wf hwf) h
  refine x_seq ?_
  refine x_region ?_
  unfold x_syntax_fields_r10
  refine o_fa (e_t (e_m4 rfl (e_m4 rfl (e_m4 rfl (e_m4 rfl (e_m4 rfl (e_m2 rfl (e_miss rfl e_hit)))))))) (by exact rfl) ?_
  refine o_load (e_t e_hit) ((g_ext rfl 0).trans rfl) (by exact rfl) ?_
  refine o_bin (e_t e_hit) e_c (b_eql ?_)
  refine o_move (e_t e_hit) ?_
  refine run_nil ?_
  refine k_then ?_
  refine x_condL (e_t e_hit) hr (fun hr => ?_) (fun hr => ?_)
  · refine x_regionD (k := 2) rfl rfl ?_
    unfold x_syntax_fields_r11
    refine acc_of_run (R := []) rfl rfl (o_fa (e_t (e_m4 rfl (e_m4 rfl (e_m4 rfl (e_m4 rfl (e_m4 rfl (e_m4 rfl (e_m2 rfl (e_miss rfl e_hit))))))))) (by exact rfl) (run_nil ?_))
    refine acc_of_run rfl (rd_load (e_t e_hit)) (o_load (e_t e_hit) ((g_ext rfl 0).trans rfl) (by exact rfl) (run_nil ?_))
    refine acc_of_run rfl (tc_cons (e_t e_hit) (by exact rfl) tc_nil) (o_slice (rows := List.map rS [p0.Name]) ((rw_cons (e_t e_hit) pc_d (td_cons f_d td_nil) rfl rw_nil)) (run_nil ?_))
    obtain ⟨v10, hc_v10, hr⟩ := bind_some hr
    refine p_call (a_cons (e_t e_hit) fz_ex a_nil) (ta_cons (e_t e_hit) (by exact rfl) ta_nil) (fun st2 => c_syntax_Free n ([p0.Name]) hc_v10 ⟨rfl, rfl⟩) ?_
    refine acc_of_run (R := []) rfl rfl (o_fa (e_t (e_m4 rfl (e_m4 rfl (e_m4 rfl (e_m4 rfl (e_m4 rfl (e_m4 rfl (e_m4 rfl (e_m2 rfl (e_miss rfl e_hit)))))))))) (by exact rfl) (run_nil ?_))
    refine acc_of_run rfl (rd_load (e_t e_hit)) (o_load (e_t e_hit) ((g_ext rfl 0).trans rfl) (by exact rfl) (run_nil ?_))
    refine acc_of_run (R := []) rfl rfl (o_move (e_t (e_m2 rfl e_hit)) (run_nil ?_))
    refine acc_of_run (R := []) rfl rfl (o_fa (e_t (e_m4 rfl (e_m4 rfl (e_m4 rfl (e_m4 rfl (e_m4 rfl (e_m2 rfl (e_miss rfl e_hit)))))))) (by exact rfl) (run_nil ?_))
    refine p_store (e_t e_hit) ((g_ext rfl 1).trans rfl) (e_t (e_m2 rfl e_hit)) pc_d rfl (Nat.le_of_ble_eq_true rfl) (by exact rfl) (cells' := [(.d (.int .i64 (0 : Int))), (.d (.int .i64 (0 : Int))), (.d (.str (⟨#[]⟩ : ByteArray))), (.d (.str p0.Name)), (.d (.str (⟨#[]⟩ : ByteArray))), (.ex [])]) (by exact rfl) (s_ext rfl _ _) ?_
    refine runA_nil ?_
    refine ⟨by simp [okAll, okPairs, ancAt, Disj], ?_⟩
    refine k_inN ?_
    refine k_then ?_
    refine x_seq ?_
    refine x_region ?_
    unfold x_syntax_fields_r17
    refine run_join (fun f st' => ∃ (v11 : Bool), d_syntax_fields_j9 p0 v11 = some r ∧ f 1 = (.ptr (st.length + 0) 0) ∧ f 6 = (.ptr (st.length + 1) 0) ∧ f 93 = (.d (.bool v11)) ∧ st' = st ++ [(.box [(.d (.int .i64 p0.Op)), (.d (.int .i64 p0.N)), (.d (.str p0.S)), (.d (.str p0.Name)), (.d (.str p0.Src)), (.d (.sl (List.map T_api_Expr.row p0.Args)))]), (.box [(.d (.int .i64 (0 : Int))), (.d (.int .i64 (0 : Int))), (.d (.str (⟨#[]⟩ : ByteArray))), (.d (.str p0.Name)), (.d (.str (⟨#[]⟩ : ByteArray))), (.ex [])]), .fresh]) ?_ ?_
    · unfold x_syntax_fields_r17s0
      refine o_move (e_t (e_miss rfl e_hit)) ?_
      refine o_move (e_t e_hit) ?_
      refine g_splitL e_hit hr (fun hr => ?_) (fun hr => ?_)
      rotate_left
      · refine g_skip e_hit ?_
        refine g_skip (e_miss rfl e_hit) ?_
        refine g_skip (e_m2 rfl e_hit) ?_
        refine g_skip (e_m2 rfl (e_miss rfl e_hit)) ?_
        refine g_skip (e_m4 rfl e_hit) ?_
        refine o_pick_f (e_t (e_m4 rfl (e_miss rfl e_hit))) e_c ?_
        refine run_nil ?_
        exact ⟨false, hr, (e_m4 rfl (e_m4 rfl (e_m4 rfl (e_m4 rfl (e_m4 rfl (e_m4 rfl (e_m4 rfl (e_m4 rfl (e_m4 rfl (e_m4 rfl (e_m4 rfl e_hit))))))))))), (e_m4 rfl (e_m4 rfl (e_m4 rfl (e_m4 rfl (e_m4 rfl (e_m4 rfl (e_m4 rfl (e_m4 rfl (e_miss rfl e_hit))))))))), e_hit, rfl⟩
      refine g_run e_hit ?_
      refine o_fa (e_t (e_m4 rfl (e_m4 rfl (e_m4 rfl (e_m4 rfl (e_m4 rfl (e_m4 rfl (e_m2 rfl (e_miss rfl e_hit))))))))) (by exact rfl) ?_
      refine g_run (e_miss rfl e_hit) ?_
      refine o_load (e_t e_hit) ((g_ext rfl 1).trans rfl) (by exact rfl) ?_
      refine g_run (e_m2 rfl e_hit) ?_
      refine o_fa (e_t (e_m4 rfl (e_m4 rfl (e_m4 rfl (e_m4 rfl (e_m4 rfl (e_m4 rfl (e_m4 rfl (e_m4 rfl (e_m4 rfl (e_m4 rfl e_hit))))))))))) (by exact rfl) ?_
      refine g_run (e_m2 rfl (e_miss rfl e_hit)) ?_
      refine o_load (e_t e_hit) ((g_ext rfl 0).trans rfl) (by exact rfl) ?_
      refine g_run (e_m4 rfl e_hit) ?_
      refine o_bin (e_t (e_m2 rfl e_hit)) (e_t e_hit) (b_eql ?_)
      refine o_pick_t (e_t (e_m4 rfl (e_miss rfl e_hit))) (e_t e_hit) ?_
      refine run_nil ?_
      exact ⟨(decide ((0 : Int) = p0.N)), hr, (e_m4 rfl (e_m4 rfl (e_m4 rfl (e_m4 rfl (e_m4 rfl (e_m4 rfl (e_m4 rfl (e_m4 rfl (e_m4 rfl (e_m4 rfl (e_m4 rfl e_hit))))))))))), (e_m4 rfl (e_m4 rfl (e_m4 rfl (e_m4 rfl (e_m4 rfl (e_m4 rfl (e_m4 rfl (e_m4 rfl (e_miss rfl e_hit))))))))), e_hit, rfl⟩
    rintro f st' ⟨v11, hr, h1, h6, h93, rfl⟩
    rw [d_syntax_fields_j9] at hr
    refine run_join (fun f st' => ∃ (v12 : Bool), d_syntax_fields_j10 p0 v12 = some r ∧ f 1 = (.ptr (st.length + 0) 0) ∧ f 6 = (.ptr (st.length + 1) 0) ∧ f 100 = (.d (.bool v12)) ∧ st' = st ++ [(.box [(.d (.int .i64 p0.Op)), (.d (.int .i64 p0.N)), (.d (.str p0.S)), (.d (.str p0.Name)), (.d (.str p0.Src)), (.d (.sl (List.map T_api_Expr.row p0.Args)))]), (.box [(.d (.int .i64 (0 : Int))), (.d (.int .i64 (0 : Int))), (.d (.str (⟨#[]⟩ : ByteArray))), (.d (.str p0.Name)), (.d (.str (⟨#[]⟩ : ByteArray))), (.ex [])]), .fresh]) ?_ ?_
    · unfold x_syntax_fields_r17s1
      refine o_move (e_t h93) ?_
      refine g_splitL e_hit hr (fun hr => ?_) (fun hr => ?_)
      rotate_left
      · refine g_skip e_hit ?_
        refine g_skip (e_miss rfl e_hit) ?_
        refine g_skip (e_m2 rfl e_hit) ?_
        refine g_skip (e_m2 rfl (e_miss rfl e_hit)) ?_
        refine g_skip (e_m4 rfl e_hit) ?_
        refine o_pick_f (e_t (e_m4 rfl (e_miss rfl e_hit))) e_c ?_
        refine run_nil ?_
        exact ⟨false, hr, (e_m4 rfl (e_m4 rfl h1)), (e_m4 rfl (e_m4 rfl h6)), e_hit, rfl⟩
      refine g_run e_hit ?_
      refine o_fa (e_t (e_m2 rfl h6)) (by exact rfl) ?_
      refine g_run (e_miss rfl e_hit) ?_
      refine o_load (e_t e_hit) ((g_ext rfl 1).trans rfl) (by exact rfl) ?_
      refine g_run (e_m2 rfl e_hit) ?_
      refine o_fa (e_t (e_m4 rfl h1)) (by exact rfl) ?_
      refine g_run (e_m2 rfl (e_miss rfl e_hit)) ?_
      refine o_load (e_t e_hit) ((g_ext rfl 0).trans rfl) (by exact rfl) ?_
      refine g_run (e_m4 rfl e_hit) ?_
      refine o_bin (e_t (e_m2 rfl e_hit)) (e_t e_hit) (b_seql ?_)
      refine o_pick_t (e_t (e_m4 rfl (e_miss rfl e_hit))) (e_t e_hit) ?_
      refine run_nil ?_
      exact ⟨(decide ((⟨#[]⟩ : ByteArray) = p0.S)), hr, (e_m4 rfl (e_m4 rfl h1)), (e_m4 rfl (e_m4 rfl h6)), e_hit, rfl⟩
    rintro f st' ⟨v12, hr, h1, h6, h100, rfl⟩
    rw [d_syntax_fields_j10] at hr
    refine run_join (fun f st' => ∃ (v13 : Bool), d_syntax_fields_j11 p0 v13 = some r ∧ f 1 = (.ptr (st.length + 0) 0) ∧ f 6 = (.ptr (st.length + 1) 0) ∧ f 107 = (.d (.bool v13)) ∧ st' = st ++ [(.box [(.d (.int .i64 p0.Op)), (.d (.int .i64 p0.N)), (.d (.str p0.S)), (.d (.str p0.Name)), (.d (.str p0.Src)), (.d (.sl (List.map T_api_Expr.row p0.Args)))]), (.box [(.d (.int .i64 (0 : Int))), (.d (.int .i64 (0 : Int))), (.d (.str (⟨#[]⟩ : ByteArray))), (.d (.str p0.Name)), (.d (.str (⟨#[]⟩ : ByteArray))), (.ex [])]), .fresh]) ?_ ?_
    · unfold x_syntax_fields_r17s2
      refine o_move (e_t h100) ?_
      refine g_splitL e_hit hr (fun hr => ?_) (fun hr => ?_)
      rotate_left
      · refine g_skip e_hit ?_
        refine g_skip (e_miss rfl e_hit) ?_
        refine g_skip (e_m2 rfl e_hit) ?_
        refine g_skip (e_m2 rfl (e_miss rfl e_hit)) ?_
        refine g_skip (e_m4 rfl e_hit) ?_
        refine o_pick_f (e_t (e_m4 rfl (e_miss rfl e_hit))) e_c ?_
        refine run_nil ?_
        exact ⟨false, hr, (e_m4 rfl (e_m4 rfl h1)), (e_m4 rfl (e_m4 rfl h6)), e_hit, rfl⟩
      refine g_run e_hit ?_
      refine o_fa (e_t (e_m2 rfl h6)) (by exact rfl) ?_
      refine g_run (e_miss rfl e_hit) ?_
      refine o_load (e_t e_hit) ((g_ext rfl 1).trans rfl) (by exact rfl) ?_
      refine g_run (e_m2 rfl e_hit) ?_
      refine o_fa (e_t (e_m4 rfl h1)) (by exact rfl) ?_
      refine g_run (e_m2 rfl (e_miss rfl e_hit)) ?_
      refine o_load (e_t e_hit) ((g_ext rfl 0).trans rfl) (by exact rfl) ?_
      refine g_run (e_m4 rfl e_hit) ?_
      refine o_bin (e_t (e_m2 rfl e_hit)) (e_t e_hit) (b_seql ?_)
      refine o_pick_t (e_t (e_m4 rfl (e_miss rfl e_hit))) (e_t e_hit) ?_
      refine run_nil ?_
      exact ⟨(decide (p0.Name = p0.Name)), hr, (e_m4 rfl (e_m4 rfl h1)), (e_m4 rfl (e_m4 rfl h6)), e_hit, rfl⟩
    rintro f st' ⟨v13, hr, h1, h6, h107, rfl⟩
    rw [d_syntax_fields_j11] at hr
    refine run_app ?_
    unfold x_syntax_fields_r17s3
    refine o_move (e_t h107) ?_
    refine g_splitL e_hit hr (fun hr => ?_) (fun hr => ?_)
    rotate_left
    · refine g_skip e_hit ?_
      refine g_skip (e_miss rfl e_hit) ?_
      refine g_skip (e_m2 rfl e_hit) ?_
      refine g_skip (e_m2 rfl (e_miss rfl e_hit)) ?_
      refine g_skip (e_m4 rfl e_hit) ?_
      refine o_pick_f (e_t (e_m4 rfl (e_miss rfl e_hit))) e_c ?_
      refine run_nil ?_
      unfold x_syntax_fields_r17s4
      refine o_move (e_t e_hit) ?_
      refine run_nil ?_
      refine k_then ?_
      refine x_ret ?_
      cases hr
      exact retK (r_tmp e_hit r_nil) (p_one fz_d v_d) (cutS_wf hwf) h
    refine g_run e_hit ?_
    refine o_fa (e_t (e_m2 rfl h6)) (by exact rfl) ?_
    refine g_run (e_miss rfl e_hit) ?_
    refine o_load (e_t e_hit) ((g_ext rfl 1).trans rfl) (by exact rfl) ?_
    refine g_run (e_m2 rfl e_hit) ?_
    refine o_fa (e_t (e_m4 rfl h1)) (by exact rfl) ?_
    refine g_run (e_m2 rfl (e_miss rfl e_hit)) ?_
    refine o_load (e_t e_hit) ((g_ext rfl 0).trans rfl) (by exact rfl) ?_
    refine g_run (e_m4 rfl e_hit) ?_
    refine o_bin (e_t (e_m2 rfl e_hit)) (e_t e_hit) (b_seql ?_)
    refine o_pick_t (e_t (e_m4 rfl (e_miss rfl e_hit))) (e_t e_hit) ?_
    refine run_nil ?_
    unfold x_syntax_fields_r17s4
    refine o_move (e_t e_hit) ?_
    refine run_nil ?_
    refine k_then ?_
    refine x_ret ?_
    cases hr
    exact retK (r_tmp e_hit r_nil) (p_one fz_d v_d) (cutS_wf hwf) h
  refine x_seq ?_
  refine x_region ?_
  unfold x_syntax_fields_r12
  refine o_fa (e_t (e_m4 rfl (e_m4 rfl (e_m4 rfl (e_m4 rfl (e_m4 rfl (e_m4 rfl (e_m2 rfl (e_miss rfl e_hit))))))))) (by exact rfl) ?_
  refine o_load (e_t e_hit) ((g_ext rfl 0).trans rfl) (by exact rfl) ?_
  refine o_bin (e_t e_hit) e_c (b_eql ?_)
  refine o_move (e_t e_hit) ?_
  refine run_nil ?_
  refine k_then ?_
  refine x_condL (e_t e_hit) hr (fun hr => ?_) (fun hr => ?_)
  · refine x_regionD (k := 2) rfl rfl ?_
    unfold x_syntax_fields_r13
    refine acc_of_run (R := []) rfl rfl (o_fa (e_t (e_m4 rfl (e_m4 rfl (e_m4 rfl (e_m4 rfl (e_m4 rfl (e_m4 rfl (e_m4 rfl (e_m2 rfl (e_miss rfl e_hit)))))))))) (by exact rfl) (run_nil ?_))
    refine acc_of_run rfl (rd_load (e_t e_hit)) (o_load (e_t e_hit) ((g_ext rfl 0).trans rfl) (by exact rfl) (run_nil ?_))
    refine acc_of_run (R := []) rfl rfl (o_fa (e_t (e_m4 rfl (e_m4 rfl (e_m4 rfl (e_m4 rfl (e_m4 rfl (e_m4 rfl (e_m4 rfl (e_m4 rfl (e_miss rfl e_hit)))))))))) (by exact rfl) (run_nil ?_))
    refine acc_of_run rfl (rd_load (e_t e_hit)) (o_load (e_t e_hit) ((g_ext rfl 0).trans rfl) (by exact rfl) (run_nil ?_))
    refine acc_of_run rfl (tc_cons (e_t (e_m2 rfl e_hit)) (by exact rfl) (tc_cons (e_t e_hit) (by exact rfl) tc_nil)) (o_slice (rows := List.map rS [p0.Name, p0.S]) ((rw_cons (e_t (e_m2 rfl e_hit)) pc_d (td_cons f_d td_nil) rfl (rw_cons (e_t e_hit) pc_d (td_cons f_d td_nil) rfl rw_nil))) (run_nil ?_))
    obtain ⟨v14, hc_v14, hr⟩ := bind_some hr
    refine p_call (a_cons (e_t e_hit) fz_ex a_nil) (ta_cons (e_t e_hit) (by exact rfl) ta_nil) (fun st2 => c_syntax_Free n ([p0.Name, p0.S]) hc_v14 ⟨rfl, rfl⟩) ?_
    refine acc_of_run (R := []) rfl rfl (o_fa (e_t (e_m4 rfl (e_m4 rfl (e_m4 rfl (e_m4 rfl (e_m4 rfl (e_m4 rfl (e_m4 rfl (e_m4 rfl (e_m4 rfl (e_miss rfl e_hit))))))))))) (by exact rfl) (run_nil ?_))
    refine acc_of_run rfl (rd_load (e_t e_hit)) (o_load (e_t e_hit) ((g_ext rfl 0).trans rfl) (by exact rfl) (run_nil ?_))
    refine acc_of_run (R := []) rfl rfl (o_fa (e_t (e_m4 rfl (e_m4 rfl (e_m4 rfl (e_m4 rfl (e_m4 rfl (e_m4 rfl (e_m4 rfl (e_m4 rfl (e_m4 rfl (e_m2 rfl (e_miss rfl e_hit)))))))))))) (by exact rfl) (run_nil ?_))
    refine acc_of_run rfl (rd_load (e_t e_hit)) (o_load (e_t e_hit) ((g_ext rfl 0).trans rfl) (by exact rfl) (run_nil ?_))
    refine acc_of_run (R := []) rfl rfl (o_move (e_t (e_m4 rfl e_hit)) (run_nil ?_))
    refine acc_of_run (R := []) rfl rfl (o_fa (e_t (e_m4 rfl (e_m4 rfl (e_m4 rfl (e_m4 rfl (e_m4 rfl (e_m4 rfl (e_m4 rfl (e_m2 rfl (e_miss rfl e_hit)))))))))) (by exact rfl) (run_nil ?_))
    refine p_store (e_t e_hit) ((g_ext rfl 1).trans rfl) (e_t (e_m4 rfl e_hit)) pc_d rfl (Nat.le_of_ble_eq_true rfl) (by exact rfl) (cells' := [(.d (.int .i64 (0 : Int))), (.d (.int .i64 (0 : Int))), (.d (.str (⟨#[]⟩ : ByteArray))), (.d (.str p0.Name)), (.d (.str (⟨#[]⟩ : ByteArray))), (.ex [])]) (by exact rfl) (s_ext rfl _ _) ?_
    refine acc_of_run (R := []) rfl rfl (o_fa (e_t (e_m4 rfl (e_m4 rfl (e_m4 rfl (e_m4 rfl (e_m4 rfl (e_m4 rfl (e_m4 rfl (e_m4 rfl e_hit))))))))) (by exact rfl) (run_nil ?_))
    refine p_store (e_t e_hit) ((g_ext rfl 1).trans rfl) (e_t (e_m2 rfl (e_miss rfl e_hit))) pc_d rfl (Nat.le_of_ble_eq_true rfl) (by exact rfl) (cells' := [(.d (.int .i64 (0 : Int))), (.d (.int .i64 (0 : Int))), (.d (.str p0.S)), (.d (.str p0.Name)), (.d (.str (⟨#[]⟩ : ByteArray))), (.ex [])]) (by exact rfl) (s_ext rfl _ _) ?_
    refine runA_nil ?_
    refine ⟨by simp [okAll, okPairs, ancAt, Disj], ?_⟩
    refine k_inN ?_
    refine k_then ?_
    refine x_seq ?_
    refine x_region ?_
    unfold x_syntax_fields_r17
    refine run_join (fun f st' => ∃ (v15 : Bool), d_syntax_fields_j12 p0 v15 = some r ∧ f 1 = (.ptr (st.length + 0) 0) ∧ f 6 = (.ptr (st.length + 1) 0) ∧ f 93 = (.d (.bool v15)) ∧ st' = st ++ [(.box [(.d (.int .i64 p0.Op)), (.d (.int .i64 p0.N)), (.d (.str p0.S)), (.d (.str p0.Name)), (.d (.str p0.Src)), (.d (.sl (List.map T_api_Expr.row p0.Args)))]), (.box [(.d (.int .i64 (0 : Int))), (.d (.int .i64 (0 : Int))), (.d (.str p0.S)), (.d (.str p0.Name)), (.d (.str (⟨#[]⟩ : ByteArray))), (.ex [])]), .fresh]) ?_ ?_
    · unfold x_syntax_fields_r17s0
      refine o_move (e_t (e_m2 rfl e_hit)) ?_
      refine o_move (e_t e_hit) ?_
      refine g_splitL e_hit hr (fun hr => ?_) (fun hr => ?_)
      rotate_left
      · refine g_skip e_hit ?_
        refine g_skip (e_miss rfl e_hit) ?_
        refine g_skip (e_m2 rfl e_hit) ?_
        refine g_skip (e_m2 rfl (e_miss rfl e_hit)) ?_
        refine g_skip (e_m4 rfl e_hit) ?_
        refine o_pick_f (e_t (e_m4 rfl (e_miss rfl e_hit))) e_c ?_
        refine run_nil ?_
        exact ⟨false, hr, (e_m4 rfl (e_m4 rfl (e_m4 rfl (e_m4 rfl (e_m4 rfl (e_m4 rfl (e_m4 rfl (e_m4 rfl (e_m4 rfl (e_m4 rfl (e_m4 rfl (e_m4 rfl (e_m4 rfl (e_miss rfl e_hit)))))))))))))), (e_m4 rfl (e_m4 rfl (e_m4 rfl (e_m4 rfl (e_m4 rfl (e_m4 rfl (e_m4 rfl (e_m4 rfl (e_m4 rfl (e_m4 rfl (e_m2 rfl e_hit))))))))))), e_hit, rfl⟩
      refine g_run e_hit ?_
      refine o_fa (e_t (e_m4 rfl (e_m4 rfl (e_m4 rfl (e_m4 rfl (e_m4 rfl (e_m4 rfl (e_m4 rfl (e_m4 rfl (e_m4 rfl e_hit)))))))))) (by exact rfl) ?_
      refine g_run (e_miss rfl e_hit) ?_
      refine o_load (e_t e_hit) ((g_ext rfl 1).trans rfl) (by exact rfl) ?_
      refine g_run (e_m2 rfl e_hit) ?_
      refine o_fa (e_t (e_m4 rfl (e_m4 rfl (e_m4 rfl (e_m4 rfl (e_m4 rfl (e_m4 rfl (e_m4 rfl (e_m4 rfl (e_m4 rfl (e_m4 rfl (e_m4 rfl (e_m4 rfl (e_miss rfl e_hit)))))))))))))) (by exact rfl) ?_
      refine g_run (e_m2 rfl (e_miss rfl e_hit)) ?_
      refine o_load (e_t e_hit) ((g_ext rfl 0).trans rfl) (by exact rfl) ?_
      refine g_run (e_m4 rfl e_hit) ?_
      refine o_bin (e_t (e_m2 rfl e_hit)) (e_t e_hit) (b_eql ?_)
      refine o_pick_t (e_t (e_m4 rfl (e_miss rfl e_hit))) (e_t e_hit) ?_
      refine run_nil ?_
      exact ⟨(decide ((0 : Int) = p0.N)), hr, (e_m4 rfl (e_m4 rfl (e_m4 rfl (e_m4 rfl (e_m4 rfl (e_m4 rfl (e_m4 rfl (e_m4 rfl (e_m4 rfl (e_m4 rfl (e_m4 rfl (e_m4 rfl (e_m4 rfl (e_miss rfl e_hit)))))))))))))), (e_m4 rfl (e_m4 rfl (e_m4 rfl (e_m4 rfl (e_m4 rfl (e_m4 rfl (e_m4 rfl (e_m4 rfl (e_m4 rfl (e_m4 rfl (e_m2 rfl e_hit))))))))))), e_hit, rfl⟩
    rintro f st' ⟨v15, hr, h1, h6, h93, rfl⟩
    rw [d_syntax_fields_j12] at hr
    refine run_join (fun f st' => ∃ (v16 : Bool), d_syntax_fields_j13 p0 v16 = some r ∧ f 1 = (.ptr (st.length + 0) 0) ∧ f 6 = (.ptr (st.length + 1) 0) ∧ f 100 = (.d (.bool v16)) ∧ st' = st ++ [(.box [(.d (.int .i64 p0.Op)), (.d (.int .i64 p0.N)), (.d (.str p0.S)), (.d (.str p0.Name)), (.d (.str p0.Src)), (.d (.sl (List.map T_api_Expr.row p0.Args)))]), (.box [(.d (.int .i64 (0 : Int))), (.d (.int .i64 (0 : Int))), (.d (.str p0.S)), (.d (.str p0.Name)), (.d (.str (⟨#[]⟩ : ByteArray))), (.ex [])]), .fresh]) ?_ ?_
    · unfold x_syntax_fields_r17s1
      refine o_move (e_t h93) ?_
      refine g_splitL e_hit hr (fun hr => ?_) (fun hr => ?_)
      rotate_left
      · refine g_skip e_hit ?_
        refine g_skip (e_miss rfl e_hit) ?_
        refine g_skip (e_m2 rfl e_hit) ?_
        refine g_skip (e_m2 rfl (e_miss rfl e_hit)) ?_
        refine g_skip (e_m4 rfl e_hit) ?_
        refine o_pick_f (e_t (e_m4 rfl (e_miss rfl e_hit))) e_c ?_
        refine run_nil ?_
        exact ⟨false, hr, (e_m4 rfl (e_m4 rfl h1)), (e_m4 rfl (e_m4 rfl h6)), e_hit, rfl⟩
      refine g_run e_hit ?_
      refine o_fa (e_t (e_m2 rfl h6)) (by exact rfl) ?_
      refine g_run (e_miss rfl e_hit) ?_
      refine o_load (e_t e_hit) ((g_ext rfl 1).trans rfl) (by exact rfl) ?_
      refine g_run (e_m2 rfl e_hit) ?_
      refine o_fa (e_t (e_m4 rfl h1)) (by exact rfl) ?_
      refine g_run (e_m2 rfl (e_miss rfl e_hit)) ?_
      refine o_load (e_t e_hit) ((g_ext rfl 0).trans rfl) (by exact rfl) ?_
      refine g_run (e_m4 rfl e_hit) ?_
      refine o_bin (e_t (e_m2 rfl e_hit)) (e_t e_hit) (b_seql ?_)
      refine o_pick_t (e_t (e_m4 rfl (e_miss rfl e_hit))) (e_t e_hit) ?_
      refine run_nil ?_
      exact ⟨(decide (p0.S = p0.S)), hr, (e_m4 rfl (e_m4 rfl h1)), (e_m4 rfl (e_m4 rfl h6)), e_hit, rfl⟩
    rintro f st' ⟨v16, hr, h1, h6, h100, rfl⟩
    rw [d_syntax_fields_j13] at hr
    refine run_join (fun f st' => ∃ (v17 : Bool), d_syntax_fields_j14 p0 v17 = some r ∧ f 1 = (.ptr (st.length + 0) 0) ∧ f 6 = (.ptr (st.length + 1) 0) ∧ f 107 = (.d (.bool v17)) ∧ st' = st ++ [(.box [(.d (.int .i64 p0.Op)), (.d (.int .i64 p0.N)), (.d (.str p0.S)), (.d (.str p0.Name)), (.d (.str p0.Src)), (.d (.sl (List.map T_api_Expr.row p0.Args)))]), (.box [(.d (.int .i64 (0 : Int))), (.d (.int .i64 (0 : Int))), (.d (.str p0.S)), (.d (.str p0.Name)), (.d (.str (⟨#[]⟩ : ByteArray))), (.ex [])]), .fresh]) ?_ ?_
    · unfold x_syntax_fields_r17s2
      refine o_move (e_t h100) ?_
      refine g_splitL e_hit hr (fun hr => ?_) (fun hr => ?_)
      rotate_left
      · refine g_skip e_hit ?_
        refine g_skip (e_miss rfl e_hit) ?_
        refine g_skip (e_m2 rfl e_hit) ?_
        refine g_skip (e_m2 rfl (e_miss rfl e_hit)) ?_
        refine g_skip (e_m4 rfl e_hit) ?_
        refine o_pick_f (e_t (e_m4 rfl (e_miss rfl e_hit))) e_c ?_
        refine run_nil ?_
        exact ⟨false, hr, (e_m4 rfl (e_m4 rfl h1)), (e_m4 rfl (e_m4 rfl h6)), e_hit, rfl⟩
      refine g_run e_hit ?_
      refine o_fa (e_t (e_m2 rfl h6)) (by exact rfl) ?_
      refine g_run (e_miss rfl e_hit) ?_
      refine o_load (e_t e_hit) ((g_ext rfl 1).trans rfl) (by exact rfl) ?_
      refine g_run (e_m2 rfl e_hit) ?_
      refine o_fa (e_t (e_m4 rfl h1)) (by exact rfl) ?_
      refine g_run (e_m2 rfl (e_miss rfl e_hit)) ?_
      refine o_load (e_t e_hit) ((g_ext rfl 0).trans rfl) (by exact rfl) ?_
      refine g_run (e_m4 rfl e_hit) ?_
      refine o_bin (e_t (e_m2 rfl e_hit)) (e_t e_hit) (b_seql ?_)
      refine o_pick_t (e_t (e_m4 rfl (e_miss rfl e_hit))) (e_t e_hit) ?_
      refine run_nil ?_
      exact ⟨(decide (p0.Name = p0.Name)), hr, (e_m4 rfl (e_m4 rfl h1)), (e_m4 rfl (e_m4 rfl h6)), e_hit, rfl⟩
    rintro f st' ⟨v17, hr, h1, h6, h107, rfl⟩
    rw [d_syntax_fields_j14] at hr
    refine run_app ?_
    unfold x_syntax_fields_r17s3
    refine o_move (e_t h107) ?_
    refine g_splitL e_hit hr (fun hr => ?_) (fun hr => ?_)
    rotate_left
    · refine g_skip e_hit ?_
      refine g_skip (e_miss rfl e_hit) ?_
      refine g_skip (e_m2 rfl e_hit) ?_
      refine g_skip (e_m2 rfl (e_miss rfl e_hit)) ?_
      refine g_skip (e_m4 rfl e_hit) ?_
      refine o_pick_f (e_t (e_m4 rfl (e_miss rfl e_hit))) e_c ?_
      refine run_nil ?_
      unfold x_syntax_fields_r17s4
      refine o_move (e_t e_hit) ?_
      refine run_nil ?_
      refine k_then ?_
      refine x_ret ?_
      cases hr
      exact retK (r_tmp e_hit r_nil) (p_one fz_d v_d) (cutS_wf hwf) h
    refine g_run e_hit ?_
    refine o_fa (e_t (e_m2 rfl h6)) (by exact rfl) ?_
    refine g_run (e_miss rfl e_hit) ?_
    refine o_load (e_t e_hit) ((g_ext rfl 1).trans rfl) (by exact rfl) ?_
    refine g_run (e_m2 rfl e_hit) ?_
    refine o_fa (e_t (e_m4 rfl h1)) (by exact rfl) ?_
    refine g_run (e_m2 rfl (e_miss rfl e_hit)) ?_
    refine o_load (e_t e_hit) ((g_ext rfl 0).trans rfl) (by exact rfl) ?_
    refine g_run (e_m4 rfl e_hit) ?_
    refine o_bin (e_t (e_m2 rfl e_hit)) (e_t e_hit) (b_seql ?_)
    refine o_pick_t (e_t (e_m4 rfl (e_miss rfl e_hit))) (e_t e_hit) ?_
    refine run_nil ?_
    unfold x_syntax_fields_r17s4
    refine o_move (e_t e_hit) ?_
    refine run_nil ?_
    refine k_then ?_
    refine x_ret ?_
    cases hr
    exact retK (r_tmp e_hit r_nil) (p_one fz_d v_d) (cutS_wf hwf) h
  refine x_seq ?_
  refine x_region ?_
  unfold x_syntax_fields_r14
  refine o_move (e_t (e_m4 rfl (e_m4 rfl (e_m4 rfl (e_m4 rfl (e_m4 rfl (e_m2 rfl e_hit))))))) ?_
  refine o_move (e_t e_hit) ?_
  refine run_nil ?_
  refine k_then ?_
  refine x_condL (e_t e_hit) hr (fun hr => ?_) (fun hr => ?_)
  rotate_left
  · refine x_region ?_
    unfold x_syntax_fields_r16
    refine o_move e_c ?_
    refine run_nil ?_
    refine k_inN ?_
    refine k_then ?_
    refine x_seq ?_
    refine x_region ?_
    unfold x_syntax_fields_r17
    refine run_app ?_
    unfold x_syntax_fields_r17s0
    refine o_move (e_t e_hit) ?_
    refine o_move (e_t e_hit) ?_
    refine g_run e_hit ?_
    refine o_fa (e_t (e_m4 rfl (e_m4 rfl (e_m4 rfl (e_m4 rfl (e_m4 rfl (e_m4 rfl (e_miss rfl e_hit)))))))) (by exact rfl) ?_
    refine g_run (e_miss rfl e_hit) ?_
    refine o_load (e_t e_hit) ((g_ext rfl 1).trans rfl) (by exact rfl) ?_
    refine g_run (e_m2 rfl e_hit) ?_
    refine o_fa (e_t (e_m4 rfl (e_m4 rfl (e_m4 rfl (e_m4 rfl (e_m4 rfl (e_m4 rfl (e_m4 rfl (e_m4 rfl (e_m4 rfl (e_m2 rfl e_hit))))))))))) (by exact rfl) ?_
    refine g_run (e_m2 rfl (e_miss rfl e_hit)) ?_
    refine o_load (e_t e_hit) ((g_ext rfl 0).trans rfl) (by exact rfl) ?_
    refine g_run (e_m4 rfl e_hit) ?_
    refine o_bin (e_t (e_m2 rfl e_hit)) (e_t e_hit) (b_eql ?_)
    refine o_pick_t (e_t (e_m4 rfl (e_miss rfl e_hit))) (e_t e_hit) ?_
    refine run_nil ?_
    refine run_join (fun f st' => ∃ (v22 : Bool), d_syntax_fields_j18 p0 v22 = some r ∧ f 1 = (.ptr (st.length + 0) 0) ∧ f 6 = (.ptr (st.length + 1) 0) ∧ f 100 = (.d (.bool v22)) ∧ st' = st ++ [(.box [(.d (.int .i64 p0.Op)), (.d (.int .i64 p0.N)), (.d (.str p0.S)), (.d (.str p0.Name)), (.d (.str p0.Src)), (.d (.sl (List.map T_api_Expr.row p0.Args)))]), (.box [(.d (.int .i64 (0 : Int))), (.d (.int .i64 (0 : Int))), (.d (.str (⟨#[]⟩ : ByteArray))), (.d (.str (⟨#[]⟩ : ByteArray))), (.d (.str (⟨#[]⟩ : ByteArray))), (.ex [])])]) ?_ ?_
    · unfold x_syntax_fields_r17s1
      refine o_move (e_t e_hit) ?_
      refine g_splitL e_hit hr (fun hr => ?_) (fun hr => ?_)
      rotate_left
      · refine g_skip e_hit ?_
        refine g_skip (e_miss rfl e_hit) ?_
        refine g_skip (e_m2 rfl e_hit) ?_
        refine g_skip (e_m2 rfl (e_miss rfl e_hit)) ?_
        refine g_skip (e_m4 rfl e_hit) ?_
        refine o_pick_f (e_t (e_m4 rfl (e_miss rfl e_hit))) e_c ?_
        refine run_nil ?_
        exact ⟨false, hr, (e_m4 rfl (e_m4 rfl (e_m4 rfl (e_m4 rfl (e_m4 rfl (e_m4 rfl (e_m4 rfl (e_m4 rfl (e_m4 rfl (e_m4 rfl (e_m4 rfl (e_m4 rfl (e_m2 rfl e_hit))))))))))))), (e_m4 rfl (e_m4 rfl (e_m4 rfl (e_m4 rfl (e_m4 rfl (e_m4 rfl (e_m4 rfl (e_m4 rfl (e_m4 rfl (e_m2 rfl (e_miss rfl e_hit))))))))))), e_hit, rfl⟩
      refine g_run e_hit ?_
      refine o_fa (e_t (e_m4 rfl (e_m4 rfl (e_m4 rfl (e_m4 rfl (e_m4 rfl (e_m4 rfl (e_m4 rfl (e_m4 rfl (e_miss rfl e_hit)))))))))) (by exact rfl) ?_
      refine g_run (e_miss rfl e_hit) ?_
      refine o_load (e_t e_hit) ((g_ext rfl 1).trans rfl) (by exact rfl) ?_
      refine g_run (e_m2 rfl e_hit) ?_
      refine o_fa (e_t (e_m4 rfl (e_m4 rfl (e_m4 rfl (e_m4 rfl (e_m4 rfl (e_m4 rfl (e_m4 rfl (e_m4 rfl (e_m4 rfl (e_m4 rfl (e_m4 rfl (e_m2 rfl e_hit))))))))))))) (by exact rfl) ?_
      refine g_run (e_m2 rfl (e_miss rfl e_hit)) ?_
      refine o_load (e_t e_hit) ((g_ext rfl 0).trans rfl) (by exact rfl) ?_
      refine g_run (e_m4 rfl e_hit) ?_
      refine o_bin (e_t (e_m2 rfl e_hit)) (e_t e_hit) (b_seql ?_)
      refine o_pick_t (e_t (e_m4 rfl (e_miss rfl e_hit))) (e_t e_hit) ?_
      refine run_nil ?_
      exact ⟨(decide ((⟨#[]⟩ : ByteArray) = p0.S)), hr, (e_m4 rfl (e_m4 rfl (e_m4 rfl (e_m4 rfl (e_m4 rfl (e_m4 rfl (e_m4 rfl (e_m4 rfl (e_m4 rfl (e_m4 rfl (e_m4 rfl (e_m4 rfl (e_m2 rfl e_hit))))))))))))), (e_m4 rfl (e_m4 rfl (e_m4 rfl (e_m4 rfl (e_m4 rfl (e_m4 rfl (e_m4 rfl (e_m4 rfl (e_m4 rfl (e_m2 rfl (e_miss rfl e_hit))))))))))), e_hit, rfl⟩
    rintro f st' ⟨v22, hr, h1, h6, h100, rfl⟩
    rw [d_syntax_fields_j18] at hr
    refine run_join (fun f st' => ∃ (v23 : Bool), d_syntax_fields_j19 p0 v23 = some r ∧ f 1 = (.ptr (st.length + 0) 0) ∧ f 6 = (.ptr (st.length + 1) 0) ∧ f 107 = (.d (.bool v23)) ∧ st' = st ++ [(.box [(.d (.int .i64 p0.Op)), (.d (.int .i64 p0.N)), (.d (.str p0.S)), (.d (.str p0.Name)), (.d (.str p0.Src)), (.d (.sl (List.map T_api_Expr.row p0.Args)))]), (.box [(.d (.int .i64 (0 : Int))), (.d (.int .i64 (0 : Int))), (.d (.str (⟨#[]⟩ : ByteArray))), (.d (.str (⟨#[]⟩ : ByteArray))), (.d (.str (⟨#[]⟩ : ByteArray))), (.ex [])])]) ?_ ?_
    · unfold x_syntax_fields_r17s2
      refine o_move (e_t h100) ?_
      refine g_splitL e_hit hr (fun hr => ?_) (fun hr => ?_)
      rotate_left
      · refine g_skip e_hit ?_
        refine g_skip (e_miss rfl e_hit) ?_
        refine g_skip (e_m2 rfl e_hit) ?_
        refine g_skip (e_m2 rfl (e_miss rfl e_hit)) ?_
        refine g_skip (e_m4 rfl e_hit) ?_
        refine o_pick_f (e_t (e_m4 rfl (e_miss rfl e_hit))) e_c ?_
        refine run_nil ?_
        exact ⟨false, hr, (e_m4 rfl (e_m4 rfl h1)), (e_m4 rfl (e_m4 rfl h6)), e_hit, rfl⟩
      refine g_run e_hit ?_
      refine o_fa (e_t (e_m2 rfl h6)) (by exact rfl) ?_
      refine g_run (e_miss rfl e_hit) ?_
      refine o_load (e_t e_hit) ((g_ext rfl 1).trans rfl) (by exact rfl) ?_
      refine g_run (e_m2 rfl e_hit) ?_
      refine o_fa (e_t (e_m4 rfl h1)) (by exact rfl) ?_
      refine g_run (e_m2 rfl (e_miss rfl e_hit)) ?_
      refine o_load (e_t e_hit) ((g_ext rfl 0).trans rfl) (by exact rfl) ?_
      refine g_run (e_m4 rfl e_hit) ?_
      refine o_bin (e_t (e_m2 rfl e_hit)) (e_t e_hit) (b_seql ?_)
      refine o_pick_t (e_t (e_m4 rfl (e_miss rfl e_hit))) (e_t e_hit) ?_
      refine run_nil ?_
      exact ⟨(decide ((⟨#[]⟩ : ByteArray) = p0.Name)), hr, (e_m4 rfl (e_m4 rfl h1)), (e_m4 rfl (e_m4 rfl h6)), e_hit, rfl⟩
    rintro f st' ⟨v23, hr, h1, h6, h107, rfl⟩
    rw [d_syntax_fields_j19] at hr
    refine run_app ?_
    unfold x_syntax_fields_r17s3
    refine o_move (e_t h107) ?_
    refine g_splitL e_hit hr (fun hr => ?_) (fun hr => ?_)
    rotate_left
    · refine g_skip e_hit ?_
      refine g_skip (e_miss rfl e_hit) ?_
      refine g_skip (e_m2 rfl e_hit) ?_
      refine g_skip (e_m2 rfl (e_miss rfl e_hit)) ?_
      refine g_skip (e_m4 rfl e_hit) ?_
      refine o_pick_f (e_t (e_m4 rfl (e_miss rfl e_hit))) e_c ?_
      refine run_nil ?_
      unfold x_syntax_fields_r17s4
      refine o_move (e_t e_hit) ?_
      refine run_nil ?_
      refine k_then ?_
      refine x_ret ?_
      cases hr
      exact retK (r_tmp e_hit r_nil) (p_one fz_d v_d) (cutS_wf hwf) h
    refine g_run e_hit ?_
    refine o_fa (e_t (e_m2 rfl h6)) (by exact rfl) ?_
    refine g_run (e_miss rfl e_hit) ?_
    refine o_load (e_t e_hit) ((g_ext rfl 1).trans rfl) (by exact rfl) ?_
    refine g_run (e_m2 rfl e_hit) ?_
    refine o_fa (e_t (e_m4 rfl h1)) (by exact rfl) ?_
    refine g_run (e_m2 rfl (e_miss rfl e_hit)) ?_
    refine o_load (e_t e_hit) ((g_ext rfl 0).trans rfl) (by exact rfl) ?_
    refine g_run (e_m4 rfl e_hit) ?_
    refine o_bin (e_t (e_m2 rfl e_hit)) (e_t e_hit) (b_seql ?_)
    refine o_pick_t (e_t (e_m4 rfl (e_miss rfl e_hit))) (e_t e_hit) ?_
    refine run_nil ?_
    unfold x_syntax_fields_r17s4
    refine o_move (e_t e_hit) ?_
    refine run_nil ?_
    refine k_then ?_
    refine x_ret ?_
    cases hr
    exact retK (r_tmp e_hit r_nil) (p_one fz_d v_d) (cutS_wf hwf) h
  refine x_regionD (k := 2) rfl rfl ?_
  unfold x_syntax_fields_r15
  refine acc_of_run (R := []) rfl rfl (o_fa (e_t (e_m4 rfl (e_m4 rfl (e_m4 rfl (e_m4 rfl (e_m4 rfl (e_m4 rfl (e_m4 rfl (e_m4 rfl (e_miss rfl e_hit)))))))))) (by exact rfl) (run_nil ?_))
  refine acc_of_run rfl (rd_load (e_t e_hit)) (o_load (e_t e_hit) ((g_ext rfl 0).trans rfl) (by exact rfl) (run_nil ?_))
  refine acc_of_run (R := []) rfl rfl (o_fa (e_t (e_m4 rfl (e_m4 rfl (e_m4 rfl (e_m4 rfl (e_m4 rfl (e_m4 rfl (e_m4 rfl (e_m4 rfl (e_m2 rfl (e_miss rfl e_hit))))))))))) (by exact rfl) (run_nil ?_))
  refine acc_of_run rfl (rd_load (e_t e_hit)) (o_load (e_t e_hit) ((g_ext rfl 0).trans rfl) (by exact rfl) (run_nil ?_))
  refine acc_of_run rfl (tc_cons (e_t (e_m2 rfl e_hit)) (by exact rfl) (tc_cons (e_t e_hit) (by exact rfl) tc_nil)) (o_slice (rows := List.map rS [p0.Name, p0.Src]) ((rw_cons (e_t (e_m2 rfl e_hit)) pc_d (td_cons f_d td_nil) rfl (rw_cons (e_t e_hit) pc_d (td_cons f_d td_nil) rfl rw_nil))) (run_nil ?_))
  obtain ⟨v18, hc_v18, hr⟩ := bind_some hr
  refine p_call (a_cons (e_t e_hit) fz_ex a_nil) (ta_cons (e_t e_hit) (by exact rfl) ta_nil) (fun st2 => c_syntax_Free n ([p0.Name, p0.Src]) hc_v18 ⟨rfl, rfl⟩) ?_
  refine acc_of_run (R := []) rfl rfl (o_fa (e_t (e_m4 rfl (e_m4 rfl (e_m4 rfl (e_m4 rfl (e_m4 rfl (e_m4 rfl (e_m4 rfl (e_m4 rfl (e_m4 rfl (e_m2 rfl (e_miss rfl e_hit)))))))))))) (by exact rfl) (run_nil ?_))
  refine acc_of_run rfl (rd_load (e_t e_hit)) (o_load (e_t e_hit) ((g_ext rfl 0).trans rfl) (by exact rfl) (run_nil ?_))
  refine acc_of_run (R := []) rfl rfl (o_fa (e_t (e_m4 rfl (e_m4 rfl (e_m4 rfl (e_m4 rfl (e_m4 rfl (e_m4 rfl (e_m4 rfl (e_m4 rfl (e_m4 rfl (e_m4 rfl (e_miss rfl e_hit)))))))))))) (by exact rfl) (run_nil ?_))
  refine acc_of_run rfl (rd_load (e_t e_hit)) (o_load (e_t e_hit) ((g_ext rfl 0).trans rfl) (by exact rfl) (run_nil ?_))
  refine acc_of_run (R := []) rfl rfl (o_move (e_t (e_m4 rfl e_hit)) (run_nil ?_))
  refine acc_of_run (R := []) rfl rfl (o_fa (e_t (e_m4 rfl (e_m4 rfl (e_m4 rfl (e_m4 rfl (e_m4 rfl (e_m4 rfl (e_m4 rfl (e_m4 rfl (e_miss rfl e_hit)))))))))) (by exact rfl) (run_nil ?_))
  refine p_store (e_t e_hit) ((g_ext rfl 1).trans rfl) (e_t (e_m4 rfl e_hit)) pc_d rfl (Nat.le_of_ble_eq_true rfl) (by exact rfl) (cells' := [(.d (.int .i64 (0 : Int))), (.d (.int .i64 (0 : Int))), (.d (.str (⟨#[]⟩ : ByteArray))), (.d (.str p0.Name)), (.d (.str (⟨#[]⟩ : ByteArray))), (.ex [])]) (by exact rfl) (s_ext rfl _ _) ?_
  refine acc_of_run (R := []) rfl rfl (o_fa (e_t (e_m4 rfl (e_m4 rfl (e_m4 rfl (e_m4 rfl (e_m4 rfl (e_m4 rfl (e_m4 rfl (e_m4 rfl (e_m2 rfl e_hit)))))))))) (by exact rfl) (run_nil ?_))
  refine p_store (e_t e_hit) ((g_ext rfl 1).trans rfl) (e_t (e_m2 rfl (e_miss rfl e_hit))) pc_d rfl (Nat.le_of_ble_eq_true rfl) (by exact rfl) (cells' := [(.d (.int .i64 (0 : Int))), (.d (.int .i64 (0 : Int))), (.d (.str (⟨#[]⟩ : ByteArray))), (.d (.str p0.Name)), (.d (.str p0.Src)), (.ex [])]) (by exact rfl) (s_ext rfl _ _) ?_
  refine runA_nil ?_
  refine ⟨by simp [okAll, okPairs, ancAt, Disj], ?_⟩
  refine k_inN ?_
  refine k_then ?_
  refine x_seq ?_
  refine x_region ?_
  unfold x_syntax_fields_r17
  refine run_join (fun f st' => ∃ (v19 : Bool), d_syntax_fields_j15 p0 v19 = some r ∧ f 1 = (.ptr (st.length + 0) 0) ∧ f 6 = (.ptr (st.length + 1) 0) ∧ f 93 = (.d (.bool v19)) ∧ st' = st ++ [(.box [(.d (.int .i64 p0.Op)), (.d (.int .i64 p0.N)), (.d (.str p0.S)), (.d (.str p0.Name)), (.d (.str p0.Src)), (.d (.sl (List.map T_api_Expr.row p0.Args)))]), (.box [(.d (.int .i64 (0 : Int))), (.d (.int .i64 (0 : Int))), (.d (.str (⟨#[]⟩ : ByteArray))), (.d (.str p0.Name)), (.d (.str p0.Src)), (.ex [])]), .fresh]) ?_ ?_
  · unfold x_syntax_fields_r17s0
    refine o_move (e_t (e_m2 rfl e_hit)) ?_
    refine o_move (e_t e_hit) ?_
    refine g_splitL e_hit hr (fun hr => ?_) (fun hr => ?_)
    rotate_left
    · refine g_skip e_hit ?_
      refine g_skip (e_miss rfl e_hit) ?_
      refine g_skip (e_m2 rfl e_hit) ?_
      refine g_skip (e_m2 rfl (e_miss rfl e_hit)) ?_
      refine g_skip (e_m4 rfl e_hit) ?_
      refine o_pick_f (e_t (e_m4 rfl (e_miss rfl e_hit))) e_c ?_
      refine run_nil ?_
      exact ⟨false, hr, (e_m4 rfl (e_m4 rfl (e_m4 rfl (e_m4 rfl (e_m4 rfl (e_m4 rfl (e_m4 rfl (e_m4 rfl (e_m4 rfl (e_m4 rfl (e_m4 rfl (e_m4 rfl (e_m4 rfl (e_m2 rfl (e_miss rfl e_hit))))))))))))))), (e_m4 rfl (e_m4 rfl (e_m4 rfl (e_m4 rfl (e_m4 rfl (e_m4 rfl (e_m4 rfl (e_m4 rfl (e_m4 rfl (e_m4 rfl (e_m4 rfl e_hit))))))))))), e_hit, rfl⟩
    refine g_run e_hit ?_
    refine o_fa (e_t (e_m4 rfl (e_m4 rfl (e_m4 rfl (e_m4 rfl (e_m4 rfl (e_m4 rfl (e_m4 rfl (e_m4 rfl (e_m4 rfl (e_m2 rfl e_hit))))))))))) (by exact rfl) ?_
    refine g_run (e_miss rfl e_hit) ?_
    refine o_load (e_t e_hit) ((g_ext rfl 1).trans rfl) (by exact rfl) ?_
    refine g_run (e_m2 rfl e_hit) ?_
    refine o_fa (e_t (e_m4 rfl (e_m4 rfl (e_m4 rfl (e_m4 rfl (e_m4 rfl (e_m4 rfl (e_m4 rfl (e_m4 rfl (e_m4 rfl (e_m4 rfl (e_m4 rfl (e_m4 rfl (e_m2 rfl (e_miss rfl e_hit))))))))))))))) (by exact rfl) ?_
    refine g_run (e_m2 rfl (e_miss rfl e_hit)) ?_
    refine o_load (e_t e_hit) ((g_ext rfl 0).trans rfl) (by exact rfl) ?_
    refine g_run (e_m4 rfl e_hit) ?_
    refine o_bin (e_t (e_m2 rfl e_hit)) (e_t e_hit) (b_eql ?_)
    refine o_pick_t (e_t (e_m4 rfl (e_miss rfl e_hit))) (e_t e_hit) ?_
    refine run_nil ?_
    exact ⟨(decide ((0 : Int) = p0.N)), hr, (e_m4 rfl (e_m4 rfl (e_m4 rfl (e_m4 rfl (e_m4 rfl (e_m4 rfl (e_m4 rfl (e_m4 rfl (e_m4 rfl (e_m4 rfl (e_m4 rfl (e_m4 rfl (e_m4 rfl (e_m2 rfl (e_miss rfl e_hit))))))))))))))), (e_m4 rfl (e_m4 rfl (e_m4 rfl (e_m4 rfl (e_m4 rfl (e_m4 rfl (e_m4 rfl (e_m4 rfl (e_m4 rfl (e_m4 rfl (e_m4 rfl e_hit))))))))))), e_hit, rfl⟩
  rintro f st' ⟨v19, hr, h1, h6, h93, rfl⟩
  rw [d_syntax_fields_j15] at hr
  refine run_join (fun f st' => ∃ (v20 : Bool), d_syntax_fields_j16 p0 v20 = some r ∧ f 1 = (.ptr (st.length + 0) 0) ∧ f 6 = (.ptr (st.length + 1) 0) ∧ f 100 = (.d (.bool v20)) ∧ st' = st ++ [(.box [(.d (.int .i64 p0.Op)), (.d (.int .i64 p0.N)), (.d (.str p0.S)), (.d (.str p0.Name)), (.d (.str p0.Src)), (.d (.sl (List.map T_api_Expr.row p0.Args)))]), (.box [(.d (.int .i64 (0 : Int))), (.d (.int .i64 (0 : Int))), (.d (.str (⟨#[]⟩ : ByteArray))), (.d (.str p0.Name)), (.d (.str p0.Src)), (.ex [])]), .fresh]) ?_ ?_
  · unfold x_syntax_fields_r17s1
    refine o_move (e_t h93) ?_
    refine g_splitL e_hit hr (fun hr => ?_) (fun hr => ?_)
    rotate_left
    · refine g_skip e_hit ?_
      refine g_skip (e_miss rfl e_hit) ?_
      refine g_skip (e_m2 rfl e_hit) ?_
      refine g_skip (e_m2 rfl (e_miss rfl e_hit)) ?_
      refine g_skip (e_m4 rfl e_hit) ?_
      refine o_pick_f (e_t (e_m4 rfl (e_miss rfl e_hit))) e_c ?_
      refine run_nil ?_
      exact ⟨false, hr, (e_m4 rfl (e_m4 rfl h1)), (e_m4 rfl (e_m4 rfl h6)), e_hit, rfl⟩
    refine g_run e_hit ?_
    refine o_fa (e_t (e_m2 rfl h6)) (by exact rfl) ?_
    refine g_run (e_miss rfl e_hit) ?_
    refine o_load (e_t e_hit) ((g_ext rfl 1).trans rfl) (by exact rfl) ?_
    refine g_run (e_m2 rfl e_hit) ?_
    refine o_fa (e_t (e_m4 rfl h1)) (by exact rfl) ?_
    refine g_run (e_m2 rfl (e_miss rfl e_hit)) ?_
    refine o_load (e_t e_hit) ((g_ext rfl 0).trans rfl) (by exact rfl) ?_
    refine g_run (e_m4 rfl e_hit) ?_
    refine o_bin (e_t (e_m2 rfl e_hit)) (e_t e_hit) (b_seql ?_)
    refine o_pick_t (e_t (e_m4 rfl (e_miss rfl e_hit))) (e_t e_hit) ?_
    refine run_nil ?_
    exact ⟨(decide ((⟨#[]⟩ : ByteArray) = p0.S)), hr, (e_m4 rfl (e_m4 rfl h1)), (e_m4 rfl (e_m4 rfl h6)), e_hit, rfl⟩
  rintro f st' ⟨v20, hr, h1, h6, h100, rfl⟩
  rw [d_syntax_fields_j16] at hr
  refine run_join (fun f st' => ∃ (v21 : Bool), d_syntax_fields_j17 p0 v21 = some r ∧ f 1 = (.ptr (st.length + 0) 0) ∧ f 6 = (.ptr (st.length + 1) 0) ∧ f 107 = (.d (.bool v21)) ∧ st' = st ++ [(.box [(.d (.int .i64 p0.Op)), (.d (.int .i64 p0.N)), (.d (.str p0.S)), (.d (.str p0.Name)), (.d (.str p0.Src)), (.d (.sl (List.map T_api_Expr.row p0.Args)))]), (.box [(.d (.int .i64 (0 : Int))), (.d (.int .i64 (0 : Int))), (.d (.str (⟨#[]⟩ : ByteArray))), (.d (.str p0.Name)), (.d (.str p0.Src)), (.ex [])]), .fresh]) ?_ ?_
  · unfold x_syntax_fields_r17s2
    refine o_move (e_t h100) ?_
    refine g_splitL e_hit hr (fun hr => ?_) (fun hr => ?_)
    rotate_left
    · refine g_skip e_hit ?_
      refine g_skip (e_miss rfl e_hit) ?_
      refine g_skip (e_m2 rfl e_hit) ?_
      refine g_skip (e_m2 rfl (e_miss rfl e_hit)) ?_
      refine g_skip (e_m4 rfl e_hit) ?_
      refine o_pick_f (e_t (e_m4 rfl (e_miss rfl e_hit))) e_c ?_
      refine run_nil ?_
      exact ⟨false, hr, (e_m4 rfl (e_m4 rfl h1)), (e_m4 rfl (e_m4 rfl h6)), e_hit, rfl⟩
    refine g_run e_hit ?_
    refine o_fa (e_t (e_m2 rfl h6)) (by exact rfl) ?_
    refine g_run (e_miss rfl e_hit) ?_
    refine o_load (e_t e_hit) ((g_ext rfl 1).trans rfl) (by exact rfl) ?_
    refine g_run (e_m2 rfl e_hit) ?_
    refine o_fa (e_t (e_m4 rfl h1)) (by exact rfl) ?_
    refine g_run (e_m2 rfl (e_miss rfl e_hit)) ?_
    refine o_load (e_t e_hit) ((g_ext rfl 0).trans rfl) (by exact rfl) ?_
    refine g_run (e_m4 rfl e_hit) ?_
    refine o_bin (e_t (e_m2 rfl e_hit)) (e_t e_hit) (b_seql ?_)
    refine o_pick_t (e_t (e_m4 rfl (e_miss rfl e_hit))) (e_t e_hit) ?_
    refine run_nil ?_
    exact ⟨(decide (p0.Name = p0.Name)), hr, (e_m4 rfl (e_m4 rfl h1)), (e_m4 rfl (e_m4 rfl h6)), e_hit, rfl⟩
  rintro f st' ⟨v21, hr, h1, h6, h107, rfl⟩
  rw [d_syntax_fields_j17] at hr
  refine run_app ?_
  unfold x_syntax_fields_r17s3
  refine o_move (e_t h107) ?_
  refine g_splitL e_hit hr (fun hr => ?_) (fun hr => ?_)
  rotate_left
  · refine g_skip e_hit ?_
    refine g_skip (e_miss rfl e_hit) ?_
    refine g_skip (e_m2 rfl e_hit) ?_
    refine g_skip (e_m2 rfl (e_miss rfl e_hit)) ?_
    refine g_skip (e_m4 rfl e_hit) ?_
    refine o_pick_f (e_t (e_m4 rfl (e_miss rfl e_hit))) e_c ?_
    refine run_nil ?_
    unfold x_syntax_fields_r17s4
    refine o_move (e_t e_hit) ?_
    refine run_nil ?_
    refine k_then ?_
    refine x_ret ?_
    cases hr
    exact retK (r_tmp e_hit r_nil) (p_one fz_d v_d) (cutS_wf hwf) h
  refine g_run e_hit ?_
  refine o_fa (e_t (e_m2 rfl h6)) (by exact rfl) ?_
  refine g_run (e_miss rfl e_hit) ?_
  refine o_load (e_t e_hit) ((g_ext rfl 1).trans rfl) (by exact rfl) ?_
  refine g_run (e_m2 rfl e_hit) ?_
  refine o_fa (e_t (e_m4 rfl h1)) (by exact rfl) ?_
  refine g_run (e_m2 rfl (e_miss rfl e_hit)) ?_
  refine o_load (e_t e_hit) ((g_ext rfl 0).trans rfl) (by exact rfl) ?_
  refine g_run (e_m4 rfl e_hit) ?_
  refine o_bin (e_t (e_m2 rfl e_hit)) (e_t e_hit) (b_seql ?_)
  refine o_pick_t (e_t (e_m4 rfl (e_miss rfl e_hit))) (e_t e_hit) ?_
  refine run_nil ?_
  unfold x_syntax_fields_r17s4
  refine o_move (e_t e_hit) ?_
  refine run_nil ?_
  refine k_then ?_
  refine x_ret ?_
  cases hr
  exact retK (r_tmp e_hit r_nil) (p_one fz_d v_d) (cutS_wf hwf) h
end Go.Ax
