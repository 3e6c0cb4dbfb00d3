import Derived.Test.YtojkpenjeglipaaYT
import Derived.Test.YtojkpenjeglipaaVX
import Derived.Test.YtojkpenjeglipaaPrim
import Derived.Test.YtojkpenjeglipaaYD1
import Derived.Test.YtojkpenjeglipaaYD2
import Derived.Test.YtojkpenjeglipaaYD3
set_option linter.unusedVariables false
set_option linter.unusedSimpArgs false
namespace Go.Ax
attribute [local irreducible] xexec xops xpre xrun xacc thenX inBlockX RetK XLoop upd ev u0 frzA frz asRows binK mmD bnd okAll fillP fillOk rowsOf toDs frz1 pack cutV tokC tokArgs
variable {st : List Content}

def d_syntax_shape_j7 (p0 : T_api_Stmt) (v7 : Bool) (v21 : Bool) : Option Bool :=
  (bif v21 then (bif v7 then some true else some (decide ((p0.Else.length : Int) = (0 : Int)))) else some false)
def d_syntax_shape_j6 (p0 : T_api_Stmt) (v6 : Bool) (v7 : Bool) (v20 : Bool) : Option Bool :=
  (bif v20 then (bif v6 then (d_syntax_shape_j7 p0 v7 true) else (d_syntax_shape_j7 p0 v7 (decide ((p0.Body.length : Int) = (0 : Int))))) else (d_syntax_shape_j7 p0 v7 false))
def d_syntax_shape_j5 (p0 : T_api_Stmt) (v6 : Bool) (v7 : Bool) (v8 : Int) (v9 : Int) (v19 : Bool) : Option Bool :=
  (bif v19 then (d_syntax_shape_j6 p0 v6 v7 (d_syntax_within (p0.Exprs.length : Int) v8 v9)) else (d_syntax_shape_j6 p0 v6 v7 false))
def d_syntax_shape_j4 (p0 : T_api_Stmt) (v5 : Bool) (v6 : Bool) (v7 : Bool) (v8 : Int) (v9 : Int) (v18 : Bool) : Option Bool :=
  (bif v18 then (bif v5 then (bif (d_syntax_within p0.N (0 : Int) (1000 : Int)) then (d_syntax_shape_j5 p0 v6 v7 v8 v9 true) else (bif (!v5) then (d_syntax_shape_j5 p0 v6 v7 v8 v9 (decide (p0.N = (0 : Int)))) else (d_syntax_shape_j5 p0 v6 v7 v8 v9 false))) else (bif (!v5) then (d_syntax_shape_j5 p0 v6 v7 v8 v9 (decide (p0.N = (0 : Int)))) else (d_syntax_shape_j5 p0 v6 v7 v8 v9 false))) else (d_syntax_shape_j5 p0 v6 v7 v8 v9 false))
def d_syntax_shape_j3 (p0 : T_api_Stmt) (n : Nat) (v4 : Bool) (v5 : Bool) (v6 : Bool) (v7 : Bool) (v8 : Int) (v9 : Int) (v15 : Bool) : Option Bool :=
  (bif v15 then (bif v4 then (bif (d_syntax_within (p0.Cols.length : Int) (1 : Int) (8 : Int)) then ((d_syntax_Free n p0.Cols).bind fun v16 => (bif v16 then ((unlikeL p0.Cols).bind fun v17 => (bif v17 then (d_syntax_shape_j4 p0 v5 v6 v7 v8 v9 true) else (bif (!v4) then (d_syntax_shape_j4 p0 v5 v6 v7 v8 v9 (decide ((p0.Cols.length : Int) = (0 : Int)))) else (d_syntax_shape_j4 p0 v5 v6 v7 v8 v9 false)))) else (bif (!v4) then (d_syntax_shape_j4 p0 v5 v6 v7 v8 v9 (decide ((p0.Cols.length : Int) = (0 : Int)))) else (d_syntax_shape_j4 p0 v5 v6 v7 v8 v9 false)))) else (bif (!v4) then (d_syntax_shape_j4 p0 v5 v6 v7 v8 v9 (decide ((p0.Cols.length : Int) = (0 : Int)))) else (d_syntax_shape_j4 p0 v5 v6 v7 v8 v9 false))) else (bif (!v4) then (d_syntax_shape_j4 p0 v5 v6 v7 v8 v9 (decide ((p0.Cols.length : Int) = (0 : Int)))) else (d_syntax_shape_j4 p0 v5 v6 v7 v8 v9 false))) else (d_syntax_shape_j4 p0 v5 v6 v7 v8 v9 false))
def d_syntax_shape_j2 (p0 : T_api_Stmt) (n : Nat) (v4 : Bool) (v5 : Bool) (v6 : Bool) (v7 : Bool) (v8 : Int) (v9 : Int) (v10 : Bool) (v14 : Bool) : Option Bool :=
  (bif v14 then (bif v10 then (d_syntax_shape_j3 p0 n v4 v5 v6 v7 v8 v9 true) else (d_syntax_shape_j3 p0 n v4 v5 v6 v7 v8 v9 (decide (p0.Src = (⟨#[]⟩ : ByteArray))))) else (d_syntax_shape_j3 p0 n v4 v5 v6 v7 v8 v9 false))
def d_syntax_shape_j1 (p0 : T_api_Stmt) (n : Nat) (v3 : Bool) (v4 : Bool) (v5 : Bool) (v6 : Bool) (v7 : Bool) (v8 : Int) (v9 : Int) (v10 : Bool) (v13 : Bool) : Option Bool :=
  (bif v13 then (bif v3 then (d_syntax_shape_j2 p0 n v4 v5 v6 v7 v8 v9 v10 true) else (d_syntax_shape_j2 p0 n v4 v5 v6 v7 v8 v9 v10 (decide (p0.Name = (⟨#[]⟩ : ByteArray))))) else (d_syntax_shape_j2 p0 n v4 v5 v6 v7 v8 v9 v10 false))
def d_syntax_shape_j0 (p0 : T_api_Stmt) (n : Nat) (v3 : Bool) (v4 : Bool) (v5 : Bool) (v6 : Bool) (v7 : Bool) (v8 : Int) (v9 : Int) (v10 : Bool) : Option Bool :=
  ((d_syntax_Free n (d_syntax_has v3 p0.Name)).bind fun v11 => (bif v11 then ((d_syntax_Free n (d_syntax_has v10 p0.Src)).bind fun v12 => (d_syntax_shape_j1 p0 n v3 v4 v5 v6 v7 v8 v9 v10 v12)) else (d_syntax_shape_j1 p0 n v3 v4 v5 v6 v7 v8 v9 v10 false)))
def d_syntax_shape_j9 (p0 : T_api_Stmt) (n : Nat) (v2 : Bool) : Option Bool :=
  (bif v2 then (d_syntax_shape_j0 p0 n false false false false false (1 : Int) (8 : Int) true) else (bif (decide (p0.Op = (4 : Int))) then (d_syntax_shape_j0 p0 n true true false false false (IntKind.wrap .i64 ((p0.Cols.length : Int) + (1 : Int))) (IntKind.wrap .i64 ((p0.Cols.length : Int) + (1 : Int))) true) else (bif (decide (p0.Op = (5 : Int))) then (d_syntax_shape_j0 p0 n true false false false false (1 : Int) (1 : Int) true) else (bif (decide (p0.Op = (6 : Int))) then (d_syntax_shape_j0 p0 n true false true true false (1 : Int) (1 : Int) true) else (bif (decide (p0.Op = (7 : Int))) then (d_syntax_shape_j0 p0 n false false false true true (1 : Int) (1 : Int) false) else (bif (decide (p0.Op = (9 : Int))) then (d_syntax_shape_j0 p0 n false false false false false (1 : Int) (1 : Int) false) else (bif (decide (p0.Op = (10 : Int))) then (d_syntax_shape_j0 p0 n false false false false false (1 : Int) (8 : Int) false) else some false)))))))
def d_syntax_shape_j8 (p0 : T_api_Stmt) (n : Nat) (v1 : Bool) : Option Bool :=
  (bif v1 then (d_syntax_shape_j0 p0 n true false false false false (1 : Int) (1 : Int) false) else (bif (decide (p0.Op = (3 : Int))) then (d_syntax_shape_j9 p0 n (decide (p0.Op = (3 : Int)))) else (d_syntax_shape_j9 p0 n (decide (p0.Op = (8 : Int))))))
def d_syntax_shape (n : Nat) (p0 : T_api_Stmt) : Option Bool :=
  (bif (decide (p0.Op = (1 : Int))) then (d_syntax_shape_j8 p0 n (decide (p0.Op = (1 : Int)))) else (d_syntax_shape_j8 p0 n (decide (p0.Op = (2 : Int)))))
set_option maxRecDepth 100000 in
set_option maxHeartbeats 4000000 in
theorem c_syntax_shape (n : Nat) (p0 : T_api_Stmt) {r : Bool} (hr : d_syntax_shape n p0 = some r) {K : PV → List Content → Prop} (h : K (.d (.bool r)) st) : ACalls PR n_syntax_shape [(.agg [(.d (.int .i64 p0.Op)), (.d (.str p0.Name)), (.d (.str p0.Src)), (.d (.int .i64 p0.N)), (.d (.sl (List.map rS p0.Cols))), (.d (.sl (List.map T_api_Expr.row p0.Exprs))), (.d (.sl (List.map T_api_Stmt.row p0.Body))), (.d (.sl (List.map T_api_Stmt.row p0.Else)))])] st K := by
  refine ACalls.of F_syntax_shape (Nat.le_of_ble_eq_true rfl) fun hwf => ?_
  rw [args0_1]
  refine entry_nil ?_
  unfold x_syntax_shape
  rw [d_syntax_shape] at hr
  refine x_seq ?_
  refine x_region ?_
  unfold x_syntax_shape_r0
  refine o_box (k := 0) rfl rfl (e_t e_hit) pc_agg (by exact rfl) ?_
  refine o_move e_c ?_
  refine run_nil ?_
  refine k_then ?_
  refine x_seq ?_
  refine x_region ?_
  unfold x_syntax_shape_r1
  refine o_move e_c ?_
  refine o_move e_c ?_
  refine o_move e_c ?_
  refine o_move e_c ?_
  refine o_move e_c ?_
  refine run_nil ?_
  refine k_then ?_
  refine x_seq ?_
  refine x_region ?_
  unfold x_syntax_shape_r2
  refine o_move e_c ?_
  refine o_move e_c ?_
  refine run_nil ?_
  refine k_then ?_
  refine x_seq ?_
  refine x_region ?_
  unfold x_syntax_shape_r3
  refine o_move e_c ?_
  refine run_nil ?_
  refine k_then ?_
  refine x_join (fun f st' => ∃ (v3 : Bool), ∃ (v4 : Bool), ∃ (v5 : Bool), ∃ (v6 : Bool), ∃ (v7 : Bool), ∃ (v8 : Int), ∃ (v9 : Int), ∃ (v10 : Bool), d_syntax_shape_j0 p0 n v3 v4 v5 v6 v7 v8 v9 v10 = some r ∧ f 1 = (.ptr (st.length + 0) 0) ∧ f 3 = (.d (.bool v3)) ∧ f 4 = (.d (.bool v4)) ∧ f 5 = (.d (.bool v5)) ∧ f 6 = (.d (.bool v6)) ∧ f 7 = (.d (.bool v7)) ∧ f 8 = (.d (.int .i64 v8)) ∧ f 9 = (.d (.int .i64 v9)) ∧ f 10 = (.d (.bool v10)) ∧ st' = st ++ [(.box [(.d (.int .i64 p0.Op)), (.d (.str p0.Name)), (.d (.str p0.Src)), (.d (.int .i64 p0.N)), (.d (.sl (List.map rS p0.Cols))), (.d (.sl (List.map T_api_Expr.row p0.Exprs))), (.d (.sl (List.map T_api_Stmt.row p0.Body))), (.d (.sl (List.map T_api_Stmt.row p0.Else)))])]) ?_ ?_
  · refine x_seq ?_
    refine x_region ?_
    unfold x_syntax_shape_r4
    refine o_fa (e_t (e_m4 rfl (e_m4 rfl (e_miss rfl e_hit)))) (by exact rfl) ?_
    refine o_load (e_t e_hit) ((g_ext rfl 0).trans rfl) (by exact rfl) ?_
    refine run_nil ?_
    refine k_then ?_
    refine x_block ?_
    refine x_join (fun f st' => ∃ (v1 : Bool), d_syntax_shape_j8 p0 n v1 = some r ∧ f 1 = (.ptr (st.length + 0) 0) ∧ f 3 = (.d (.bool false)) ∧ f 4 = (.d (.bool false)) ∧ f 5 = (.d (.bool false)) ∧ f 6 = (.d (.bool false)) ∧ f 7 = (.d (.bool false)) ∧ f 8 = (.d (.int .i64 (1 : Int))) ∧ f 9 = (.d (.int .i64 (1 : Int))) ∧ f 10 = (.d (.bool true)) ∧ f 12 = (.d (.int .i64 p0.Op)) ∧ f 13 = (.d (.bool v1)) ∧ st' = st ++ [(.box [(.d (.int .i64 p0.Op)), (.d (.str p0.Name)), (.d (.str p0.Src)), (.d (.int .i64 p0.N)), (.d (.sl (List.map rS p0.Cols))), (.d (.sl (List.map T_api_Expr.row p0.Exprs))), (.d (.sl (List.map T_api_Stmt.row p0.Body))), (.d (.sl (List.map T_api_Stmt.row p0.Else)))])]) ?_ ?_
    · refine x_seq ?_
      refine x_region ?_
      unfold x_syntax_shape_r5
      refine o_bin (e_t e_hit) e_c (b_eql ?_)
      refine o_move (e_t e_hit) ?_
      refine run_nil ?_
      refine k_then ?_
      refine x_condL (e_t e_hit) hr (fun hr => ?_) (fun hr => ?_)
      · refine x_skip ?_
        refine k_then ?_
        exact ⟨(decide (p0.Op = (1 : Int))), hr, (e_m4 rfl (e_m4 rfl (e_m4 rfl (e_miss rfl e_hit)))), (e_m4 rfl (e_m4 rfl (e_m2 rfl (e_miss rfl e_hit)))), (e_m4 rfl (e_m4 rfl (e_m2 rfl e_hit))), (e_m4 rfl (e_m4 rfl (e_miss rfl e_hit))), (e_m4 rfl (e_m4 rfl e_hit)), (e_m4 rfl (e_m2 rfl (e_miss rfl e_hit))), (e_m4 rfl (e_m2 rfl e_hit)), (e_m4 rfl (e_miss rfl e_hit)), (e_m4 rfl e_hit), (e_m2 rfl e_hit), e_hit, rfl⟩
      refine x_region ?_
      unfold x_syntax_shape_r6
      refine o_bin (e_t (e_m2 rfl e_hit)) e_c (b_eql ?_)
      refine o_move (e_t e_hit) ?_
      refine run_nil ?_
      refine k_then ?_
      exact ⟨(decide (p0.Op = (2 : Int))), hr, (e_m4 rfl (e_m4 rfl (e_m4 rfl (e_m2 rfl (e_miss rfl e_hit))))), (e_m4 rfl (e_m4 rfl (e_m4 rfl (e_miss rfl e_hit)))), (e_m4 rfl (e_m4 rfl (e_m4 rfl e_hit))), (e_m4 rfl (e_m4 rfl (e_m2 rfl (e_miss rfl e_hit)))), (e_m4 rfl (e_m4 rfl (e_m2 rfl e_hit))), (e_m4 rfl (e_m4 rfl (e_miss rfl e_hit))), (e_m4 rfl (e_m4 rfl e_hit)), (e_m4 rfl (e_m2 rfl (e_miss rfl e_hit))), (e_m4 rfl (e_m2 rfl e_hit)), (e_m4 rfl e_hit), e_hit, rfl⟩
    rintro f st' ⟨v1, hr, h1, h3, h4, h5, h6, h7, h8, h9, h10, h12, h13, rfl⟩
    rw [d_syntax_shape_j8] at hr
    refine x_condL (e_t h13) hr (fun hr => ?_) (fun hr => ?_)
    · refine x_region ?_
      unfold x_syntax_shape_r7
      refine o_move e_c ?_
      refine o_move e_c ?_
      refine run_nil ?_
      refine k_inN ?_
      refine k_then ?_
      exact ⟨true, false, false, false, false, (1 : Int), (1 : Int), false, hr, (e_m2 rfl h1), (e_miss rfl e_hit), (e_m2 rfl h4), (e_m2 rfl h5), (e_m2 rfl h6), (e_m2 rfl h7), (e_m2 rfl h8), (e_m2 rfl h9), e_hit, rfl⟩
    refine x_join (fun f st' => ∃ (v2 : Bool), d_syntax_shape_j9 p0 n v2 = some r ∧ f 1 = (.ptr (st.length + 0) 0) ∧ f 3 = (.d (.bool false)) ∧ f 4 = (.d (.bool false)) ∧ f 5 = (.d (.bool false)) ∧ f 6 = (.d (.bool false)) ∧ f 7 = (.d (.bool false)) ∧ f 8 = (.d (.int .i64 (1 : Int))) ∧ f 9 = (.d (.int .i64 (1 : Int))) ∧ f 10 = (.d (.bool true)) ∧ f 12 = (.d (.int .i64 p0.Op)) ∧ f 16 = (.d (.bool v2)) ∧ st' = st ++ [(.box [(.d (.int .i64 p0.Op)), (.d (.str p0.Name)), (.d (.str p0.Src)), (.d (.int .i64 p0.N)), (.d (.sl (List.map rS p0.Cols))), (.d (.sl (List.map T_api_Expr.row p0.Exprs))), (.d (.sl (List.map T_api_Stmt.row p0.Body))), (.d (.sl (List.map T_api_Stmt.row p0.Else)))])]) ?_ ?_
    · refine x_seq ?_
      refine x_region ?_
      unfold x_syntax_shape_r8
      refine o_bin (e_t h12) e_c (b_eql ?_)
      refine o_move (e_t e_hit) ?_
      refine run_nil ?_
      refine k_then ?_
      refine x_condL (e_t e_hit) hr (fun hr => ?_) (fun hr => ?_)
      · refine x_skip ?_
        refine k_then ?_
        exact ⟨(decide (p0.Op = (3 : Int))), hr, (e_m2 rfl h1), (e_m2 rfl h3), (e_m2 rfl h4), (e_m2 rfl h5), (e_m2 rfl h6), (e_m2 rfl h7), (e_m2 rfl h8), (e_m2 rfl h9), (e_m2 rfl h10), (e_m2 rfl h12), e_hit, rfl⟩
      refine x_region ?_
      unfold x_syntax_shape_r9
      refine o_bin (e_t (e_m2 rfl h12)) e_c (b_eql ?_)
      refine o_move (e_t e_hit) ?_
      refine run_nil ?_
      refine k_then ?_
      exact ⟨(decide (p0.Op = (8 : Int))), hr, (e_m4 rfl h1), (e_m4 rfl h3), (e_m4 rfl h4), (e_m4 rfl h5), (e_m4 rfl h6), (e_m4 rfl h7), (e_m4 rfl h8), (e_m4 rfl h9), (e_m4 rfl h10), (e_m4 rfl h12), e_hit, rfl⟩
    rintro f st' ⟨v2, hr, h1, h3, h4, h5, h6, h7, h8, h9, h10, h12, h16, rfl⟩
    rw [d_syntax_shape_j9] at hr
    refine x_condL (e_t h16) hr (fun hr => ?_) (fun hr => ?_)
    · refine x_region ?_
      unfold x_syntax_shape_r10
      refine o_move e_c ?_
      refine run_nil ?_
      refine k_inN ?_
      refine k_then ?_
      exact ⟨false, false, false, false, false, (1 : Int), (8 : Int), true, hr, (e_miss rfl h1), (e_miss rfl h3), (e_miss rfl h4), (e_miss rfl h5), (e_miss rfl h6), (e_miss rfl h7), (e_miss rfl h8), e_hit, (e_miss rfl h10), rfl⟩
    refine x_seq ?_
    refine x_region ?_
    unfold x_syntax_shape_r11
    refine o_bin (e_t h12) e_c (b_eql ?_)
    refine o_move (e_t e_hit) ?_
    refine run_nil ?_
    refine k_then ?_
    refine x_condL (e_t e_hit) hr (fun hr => ?_) (fun hr => ?_)
    · refine x_seq ?_
      refine x_region ?_
      unfold x_syntax_shape_r12
      refine o_move e_c ?_
      refine o_move e_c ?_
      refine run_nil ?_
      refine k_then ?_
      refine x_regionS (k := 1) rfl rfl ?_
      unfold x_syntax_shape_r13
      refine o_fa (e_t (e_m4 rfl h1)) (by exact rfl) ?_
      refine o_load (e_t e_hit) ((g_ext rfl 0).trans rfl) (by exact rfl) ?_
      refine o_lenL (row := rS) (ar_of (e_t e_hit) ar_d) ?_
      refine o_bin (e_t e_hit) e_c (b_add ?_)
      refine o_fa (e_t (e_m4 rfl (e_m4 rfl h1))) (by exact rfl) ?_
      refine o_load (e_t e_hit) ((g_ext rfl 0).trans rfl) (by exact rfl) ?_
      refine o_lenL (row := rS) (ar_of (e_t e_hit) ar_d) ?_
      refine o_bin (e_t e_hit) e_c (b_add ?_)
      refine o_move (e_t (e_m4 rfl e_hit)) ?_
      refine o_move (e_t (e_miss rfl e_hit)) ?_
      refine run_nil ?_
      refine k_inN ?_
      refine k_then ?_
      exact ⟨true, true, false, false, false, (IntKind.wrap .i64 ((p0.Cols.length : Int) + (1 : Int))), (IntKind.wrap .i64 ((p0.Cols.length : Int) + (1 : Int))), true, hr, (e_m4 rfl (e_m4 rfl (e_m4 rfl (e_m2 rfl h1)))), (e_m4 rfl (e_m4 rfl (e_m2 rfl (e_miss rfl e_hit)))), (e_m4 rfl (e_m4 rfl (e_m2 rfl e_hit))), (e_m4 rfl (e_m4 rfl (e_m4 rfl (e_m2 rfl h5)))), (e_m4 rfl (e_m4 rfl (e_m4 rfl (e_m2 rfl h6)))), (e_m4 rfl (e_m4 rfl (e_m4 rfl (e_m2 rfl h7)))), (e_miss rfl e_hit), e_hit, (e_m4 rfl (e_m4 rfl (e_m4 rfl (e_m2 rfl h10)))), rfl⟩
    refine x_seq ?_
    refine x_region ?_
    unfold x_syntax_shape_r14
    refine o_bin (e_t (e_m2 rfl h12)) e_c (b_eql ?_)
    refine o_move (e_t e_hit) ?_
    refine run_nil ?_
    refine k_then ?_
    refine x_condL (e_t e_hit) hr (fun hr => ?_) (fun hr => ?_)
    · refine x_region ?_
      unfold x_syntax_shape_r15
      refine o_move e_c ?_
      refine run_nil ?_
      refine k_inN ?_
      refine k_then ?_
      exact ⟨true, false, false, false, false, (1 : Int), (1 : Int), true, hr, (e_m4 rfl (e_miss rfl h1)), e_hit, (e_m4 rfl (e_miss rfl h4)), (e_m4 rfl (e_miss rfl h5)), (e_m4 rfl (e_miss rfl h6)), (e_m4 rfl (e_miss rfl h7)), (e_m4 rfl (e_miss rfl h8)), (e_m4 rfl (e_miss rfl h9)), (e_m4 rfl (e_miss rfl h10)), rfl⟩
    refine x_seq ?_
    refine x_region ?_
    unfold x_syntax_shape_r16
    refine o_bin (e_t (e_m4 rfl h12)) e_c (b_eql ?_)
    refine o_move (e_t e_hit) ?_
    refine run_nil ?_
    refine k_then ?_
    refine x_condL (e_t e_hit) hr (fun hr => ?_) (fun hr => ?_)
    · refine x_region ?_
      unfold x_syntax_shape_r17
      refine o_move e_c ?_
      refine o_move e_c ?_
      refine o_move e_c ?_
      refine run_nil ?_
      refine k_inN ?_
      refine k_then ?_
      exact ⟨true, false, true, true, false, (1 : Int), (1 : Int), true, hr, (e_m4 rfl (e_m4 rfl (e_miss rfl h1))), (e_m2 rfl e_hit), (e_m4 rfl (e_m4 rfl (e_miss rfl h4))), (e_miss rfl e_hit), e_hit, (e_m4 rfl (e_m4 rfl (e_miss rfl h7))), (e_m4 rfl (e_m4 rfl (e_miss rfl h8))), (e_m4 rfl (e_m4 rfl (e_miss rfl h9))), (e_m4 rfl (e_m4 rfl (e_miss rfl h10))), rfl⟩
    refine x_seq ?_
    refine x_region ?_
    unfold x_syntax_shape_r18
    refine o_bin (e_t (e_m4 rfl (e_m2 rfl h12))) e_c (b_eql ?_)
    refine o_move (e_t e_hit) ?_
    refine run_nil ?_
    refine k_then ?_
    refine x_condL (e_t e_hit) hr (fun hr => ?_) (fun hr => ?_)
    · refine x_region ?_
      unfold x_syntax_shape_r19
      refine o_move e_c ?_
      refine o_move e_c ?_
      refine o_move e_c ?_
      refine run_nil ?_
      refine k_inN ?_
      refine k_then ?_
      exact ⟨false, false, false, true, true, (1 : Int), (1 : Int), false, hr, (e_m4 rfl (e_m4 rfl (e_m2 rfl (e_miss rfl h1)))), (e_m4 rfl (e_m4 rfl (e_m2 rfl (e_miss rfl h3)))), (e_m4 rfl (e_m4 rfl (e_m2 rfl (e_miss rfl h4)))), (e_m4 rfl (e_m4 rfl (e_m2 rfl (e_miss rfl h5)))), (e_m2 rfl e_hit), (e_miss rfl e_hit), (e_m4 rfl (e_m4 rfl (e_m2 rfl (e_miss rfl h8)))), (e_m4 rfl (e_m4 rfl (e_m2 rfl (e_miss rfl h9)))), e_hit, rfl⟩
    refine x_seq ?_
    refine x_region ?_
    unfold x_syntax_shape_r20
    refine o_bin (e_t (e_m4 rfl (e_m4 rfl h12))) e_c (b_eql ?_)
    refine o_move (e_t e_hit) ?_
    refine run_nil ?_
    refine k_then ?_
    refine x_condL (e_t e_hit) hr (fun hr => ?_) (fun hr => ?_)
    · refine x_region ?_
      unfold x_syntax_shape_r21
      refine o_move e_c ?_
      refine run_nil ?_
      refine k_inN ?_
      refine k_then ?_
      exact ⟨false, false, false, false, false, (1 : Int), (1 : Int), false, hr, (e_m4 rfl (e_m4 rfl (e_m2 rfl (e_miss rfl h1)))), (e_m4 rfl (e_m4 rfl (e_m2 rfl (e_miss rfl h3)))), (e_m4 rfl (e_m4 rfl (e_m2 rfl (e_miss rfl h4)))), (e_m4 rfl (e_m4 rfl (e_m2 rfl (e_miss rfl h5)))), (e_m4 rfl (e_m4 rfl (e_m2 rfl (e_miss rfl h6)))), (e_m4 rfl (e_m4 rfl (e_m2 rfl (e_miss rfl h7)))), (e_m4 rfl (e_m4 rfl (e_m2 rfl (e_miss rfl h8)))), (e_m4 rfl (e_m4 rfl (e_m2 rfl (e_miss rfl h9)))), e_hit, rfl⟩
    refine x_seq ?_
    refine x_region ?_
    unfold x_syntax_shape_r22
    refine o_bin (e_t (e_m4 rfl (e_m4 rfl (e_m2 rfl h12)))) e_c (b_eql ?_)
    refine o_move (e_t e_hit) ?_
    refine run_nil ?_
    refine k_then ?_
    refine x_condL (e_t e_hit) hr (fun hr => ?_) (fun hr => ?_)
    · refine x_region ?_
      unfold x_syntax_shape_r23
      refine o_move e_c ?_
      refine o_move e_c ?_
      refine run_nil ?_
      refine k_inN ?_
      refine k_then ?_
      exact ⟨false, false, false, false, false, (1 : Int), (8 : Int), false, hr, (e_m4 rfl (e_m4 rfl (e_m4 rfl (e_m2 rfl h1)))), (e_m4 rfl (e_m4 rfl (e_m4 rfl (e_m2 rfl h3)))), (e_m4 rfl (e_m4 rfl (e_m4 rfl (e_m2 rfl h4)))), (e_m4 rfl (e_m4 rfl (e_m4 rfl (e_m2 rfl h5)))), (e_m4 rfl (e_m4 rfl (e_m4 rfl (e_m2 rfl h6)))), (e_m4 rfl (e_m4 rfl (e_m4 rfl (e_m2 rfl h7)))), (e_m4 rfl (e_m4 rfl (e_m4 rfl (e_m2 rfl h8)))), (e_miss rfl e_hit), e_hit, rfl⟩
    refine x_seq ?_
    refine x_region ?_
    unfold x_syntax_shape_r24
    refine o_move e_c ?_
    refine run_nil ?_
    refine k_then ?_
    refine x_ret ?_
    refine k_inR ?_
    refine k_thenR ?_
    cases hr
    exact retK (r_tmp e_hit r_nil) (p_one fz_d v_d) (cutS_wf hwf) h
  rintro f st' ⟨v3, v4, v5, v6, v7, v8, v9, v10, hr, h1, h3, h4, h5, h6, h7, h8, h9, h10, rfl⟩
  rw [d_syntax_shape_j0] at hr
  refine x_seq ?_
  refine x_region ?_
  unfold x_syntax_shape_r25
  refine run_join (fun f st' => ∃ (v13 : Bool), d_syntax_shape_j1 p0 n v3 v4 v5 v6 v7 v8 v9 v10 v13 = some r ∧ f 1 = (.ptr (st.length + 0) 0) ∧ f 3 = (.d (.bool v3)) ∧ f 4 = (.d (.bool v4)) ∧ f 5 = (.d (.bool v5)) ∧ f 6 = (.d (.bool v6)) ∧ f 7 = (.d (.bool v7)) ∧ f 8 = (.d (.int .i64 v8)) ∧ f 9 = (.d (.int .i64 v9)) ∧ f 10 = (.d (.bool v10)) ∧ f 50 = (.d (.bool v13)) ∧ st' = st ++ [(.box [(.d (.int .i64 p0.Op)), (.d (.str p0.Name)), (.d (.str p0.Src)), (.d (.int .i64 p0.N)), (.d (.sl (List.map rS p0.Cols))), (.d (.sl (List.map T_api_Expr.row p0.Exprs))), (.d (.sl (List.map T_api_Stmt.row p0.Body))), (.d (.sl (List.map T_api_Stmt.row p0.Else)))])]) ?_ ?_
  · unfold x_syntax_shape_r25s0
    refine o_move (e_t h3) ?_
    refine o_fa (e_t (e_miss rfl h1)) (by exact rfl) ?_
    refine o_load (e_t e_hit) ((g_ext rfl 0).trans rfl) (by exact rfl) ?_
    refine o_call (a_cons (e_t (e_m2 rfl e_hit)) fz_d (a_cons (e_t e_hit) fz_d a_nil)) ?_
    refine c_syntax_has v3 p0.Name rfl ?_
    obtain ⟨v11, hc_v11, hr⟩ := bind_some hr
    refine o_call (a_cons (e_t e_hit) fz_d a_nil) ?_
    refine c_syntax_Free n (d_syntax_has v3 p0.Name) hc_v11 ?_
    refine o_move (e_t e_hit) ?_
    refine g_splitL e_hit hr (fun hr => ?_) (fun hr => ?_)
    rotate_left
    · refine g_skip e_hit ?_
      refine g_skip (e_miss rfl e_hit) ?_
      refine g_skip (e_m2 rfl e_hit) ?_
      refine g_skip (e_m2 rfl (e_miss rfl e_hit)) ?_
      refine g_skip (e_m4 rfl e_hit) ?_
      refine o_pick_f (e_t (e_m4 rfl (e_miss rfl e_hit))) e_c ?_
      refine run_nil ?_
      exact ⟨false, hr, (e_m4 rfl (e_m4 rfl (e_m4 rfl (e_miss rfl h1)))), (e_m4 rfl (e_m4 rfl (e_m4 rfl (e_miss rfl h3)))), (e_m4 rfl (e_m4 rfl (e_m4 rfl (e_miss rfl h4)))), (e_m4 rfl (e_m4 rfl (e_m4 rfl (e_miss rfl h5)))), (e_m4 rfl (e_m4 rfl (e_m4 rfl (e_miss rfl h6)))), (e_m4 rfl (e_m4 rfl (e_m4 rfl (e_miss rfl h7)))), (e_m4 rfl (e_m4 rfl (e_m4 rfl (e_miss rfl h8)))), (e_m4 rfl (e_m4 rfl (e_m4 rfl (e_miss rfl h9)))), (e_m4 rfl (e_m4 rfl (e_m4 rfl (e_miss rfl h10)))), e_hit, rfl⟩
    refine g_run e_hit ?_
    refine o_move (e_t (e_m4 rfl (e_m2 rfl (e_miss rfl h10)))) ?_
    refine g_run (e_miss rfl e_hit) ?_
    refine o_fa (e_t (e_m4 rfl (e_m4 rfl h1))) (by exact rfl) ?_
    refine g_run (e_m2 rfl e_hit) ?_
    refine o_load (e_t e_hit) ((g_ext rfl 0).trans rfl) (by exact rfl) ?_
    refine g_run (e_m2 rfl (e_miss rfl e_hit)) ?_
    refine o_call (a_cons (e_t (e_m2 rfl e_hit)) fz_d (a_cons (e_t e_hit) fz_d a_nil)) ?_
    refine c_syntax_has v10 p0.Src rfl ?_
    refine g_run (e_m4 rfl e_hit) ?_
    obtain ⟨v12, hc_v12, hr⟩ := bind_some hr
    refine o_call (a_cons (e_t e_hit) fz_d a_nil) ?_
    refine c_syntax_Free n (d_syntax_has v10 p0.Src) hc_v12 ?_
    refine o_pick_t (e_t (e_m4 rfl (e_miss rfl e_hit))) (e_t e_hit) ?_
    refine run_nil ?_
    exact ⟨v12, hr, (e_m4 rfl (e_m4 rfl (e_m4 rfl (e_miss rfl h1)))), (e_m4 rfl (e_m4 rfl (e_m4 rfl (e_miss rfl h3)))), (e_m4 rfl (e_m4 rfl (e_m4 rfl (e_miss rfl h4)))), (e_m4 rfl (e_m4 rfl (e_m4 rfl (e_miss rfl h5)))), (e_m4 rfl (e_m4 rfl (e_m4 rfl (e_miss rfl h6)))), (e_m4 rfl (e_m4 rfl (e_m4 rfl (e_miss rfl h7)))), (e_m4 rfl (e_m4 rfl (e_m4 rfl (e_miss rfl h8)))), (e_m4 rfl (e_m4 rfl (e_m4 rfl (e_miss rfl h9)))), (e_m4 rfl (e_m4 rfl (e_m4 rfl (e_miss rfl h10)))), e_hit, rfl⟩
  rintro f st' ⟨v13, hr, h1, h3, h4, h5, h6, h7, h8, h9, h10, h50, rfl⟩
  rw [d_syntax_shape_j1] at hr
  refine run_join (fun f st' => ∃ (v14 : Bool), d_syntax_shape_j2 p0 n v4 v5 v6 v7 v8 v9 v10 v14 = some r ∧ f 1 = (.ptr (st.length + 0) 0) ∧ f 4 = (.d (.bool v4)) ∧ f 5 = (.d (.bool v5)) ∧ f 6 = (.d (.bool v6)) ∧ f 7 = (.d (.bool v7)) ∧ f 8 = (.d (.int .i64 v8)) ∧ f 9 = (.d (.int .i64 v9)) ∧ f 10 = (.d (.bool v10)) ∧ f 58 = (.d (.bool v14)) ∧ st' = st ++ [(.box [(.d (.int .i64 p0.Op)), (.d (.str p0.Name)), (.d (.str p0.Src)), (.d (.int .i64 p0.N)), (.d (.sl (List.map rS p0.Cols))), (.d (.sl (List.map T_api_Expr.row p0.Exprs))), (.d (.sl (List.map T_api_Stmt.row p0.Body))), (.d (.sl (List.map T_api_Stmt.row p0.Else)))])]) ?_ ?_
  · unfold x_syntax_shape_r25s1
    refine o_move (e_t h50) ?_
    refine g_splitL e_hit hr (fun hr => ?_) (fun hr => ?_)
    rotate_left
    · refine g_skip e_hit ?_
      refine g_skip (e_miss rfl e_hit) ?_
      refine g_none e_hit ?_
      refine g_none (e_miss rfl e_hit) ?_
      refine g_none (e_m2 rfl e_hit) ?_
      refine g_skip (e_m4 rfl (e_miss rfl e_hit)) ?_
      refine o_pick_f (e_t (e_m4 rfl (e_m2 rfl e_hit))) e_c ?_
      refine run_nil ?_
      exact ⟨false, hr, (e_m4 rfl (e_m4 rfl (e_miss rfl h1))), (e_m4 rfl (e_m4 rfl (e_miss rfl h4))), (e_m4 rfl (e_m4 rfl (e_miss rfl h5))), (e_m4 rfl (e_m4 rfl (e_miss rfl h6))), (e_m4 rfl (e_m4 rfl (e_miss rfl h7))), (e_m4 rfl (e_m4 rfl (e_miss rfl h8))), (e_m4 rfl (e_m4 rfl (e_miss rfl h9))), (e_m4 rfl (e_m4 rfl (e_miss rfl h10))), e_hit, rfl⟩
    refine g_run e_hit ?_
    refine o_move (e_t (e_m2 rfl h3)) ?_
    refine g_run (e_miss rfl e_hit) ?_
    refine o_move (e_t e_hit) ?_
    refine g_splitL e_hit hr (fun hr => ?_) (fun hr => ?_)
    · refine g_skip e_hit ?_
      refine g_skip (e_miss rfl e_hit) ?_
      refine g_skip (e_m2 rfl e_hit) ?_
      refine g_run (e_m4 rfl (e_m2 rfl e_hit)) ?_
      refine o_pick_t (e_t (e_m2 rfl (e_miss rfl e_hit))) e_c ?_
      refine o_pick_t (e_t (e_m4 rfl (e_m2 rfl (e_miss rfl e_hit)))) (e_t e_hit) ?_
      refine run_nil ?_
      exact ⟨true, hr, (e_m4 rfl (e_m4 rfl (e_m2 rfl h1))), (e_m4 rfl (e_m4 rfl (e_m2 rfl h4))), (e_m4 rfl (e_m4 rfl (e_m2 rfl h5))), (e_m4 rfl (e_m4 rfl (e_m2 rfl h6))), (e_m4 rfl (e_m4 rfl (e_m2 rfl h7))), (e_m4 rfl (e_m4 rfl (e_m2 rfl h8))), (e_m4 rfl (e_m4 rfl (e_m2 rfl h9))), (e_m4 rfl (e_m4 rfl (e_m2 rfl h10))), e_hit, rfl⟩
    refine g_run e_hit ?_
    refine o_fa (e_t (e_m4 rfl (e_miss rfl h1))) (by exact rfl) ?_
    refine g_run (e_miss rfl e_hit) ?_
    refine o_load (e_t e_hit) ((g_ext rfl 0).trans rfl) (by exact rfl) ?_
    refine g_run (e_m2 rfl e_hit) ?_
    refine o_bin (e_t e_hit) e_c (b_seql ?_)
    refine g_run (e_m4 rfl (e_m2 rfl e_hit)) ?_
    refine o_pick_f (e_t (e_m2 rfl (e_miss rfl e_hit))) (e_t e_hit) ?_
    refine o_pick_t (e_t (e_m4 rfl (e_m2 rfl (e_miss rfl e_hit)))) (e_t e_hit) ?_
    refine run_nil ?_
    exact ⟨(decide (p0.Name = (⟨#[]⟩ : ByteArray))), hr, (e_m4 rfl (e_m4 rfl (e_m2 rfl h1))), (e_m4 rfl (e_m4 rfl (e_m2 rfl h4))), (e_m4 rfl (e_m4 rfl (e_m2 rfl h5))), (e_m4 rfl (e_m4 rfl (e_m2 rfl h6))), (e_m4 rfl (e_m4 rfl (e_m2 rfl h7))), (e_m4 rfl (e_m4 rfl (e_m2 rfl h8))), (e_m4 rfl (e_m4 rfl (e_m2 rfl h9))), (e_m4 rfl (e_m4 rfl (e_m2 rfl h10))), e_hit, rfl⟩
  rintro f st' ⟨v14, hr, h1, h4, h5, h6, h7, h8, h9, h10, h58, rfl⟩
  rw [d_syntax_shape_j2] at hr
  refine run_join (fun f st' => ∃ (v15 : Bool), d_syntax_shape_j3 p0 n v4 v5 v6 v7 v8 v9 v15 = some r ∧ f 1 = (.ptr (st.length + 0) 0) ∧ f 4 = (.d (.bool v4)) ∧ f 5 = (.d (.bool v5)) ∧ f 6 = (.d (.bool v6)) ∧ f 7 = (.d (.bool v7)) ∧ f 8 = (.d (.int .i64 v8)) ∧ f 9 = (.d (.int .i64 v9)) ∧ f 66 = (.d (.bool v15)) ∧ st' = st ++ [(.box [(.d (.int .i64 p0.Op)), (.d (.str p0.Name)), (.d (.str p0.Src)), (.d (.int .i64 p0.N)), (.d (.sl (List.map rS p0.Cols))), (.d (.sl (List.map T_api_Expr.row p0.Exprs))), (.d (.sl (List.map T_api_Stmt.row p0.Body))), (.d (.sl (List.map T_api_Stmt.row p0.Else)))])]) ?_ ?_
  · unfold x_syntax_shape_r25s2
    refine o_move (e_t h58) ?_
    refine g_splitL e_hit hr (fun hr => ?_) (fun hr => ?_)
    rotate_left
    · refine g_skip e_hit ?_
      refine g_skip (e_miss rfl e_hit) ?_
      refine g_none e_hit ?_
      refine g_none (e_miss rfl e_hit) ?_
      refine g_none (e_m2 rfl e_hit) ?_
      refine g_skip (e_m4 rfl (e_miss rfl e_hit)) ?_
      refine o_pick_f (e_t (e_m4 rfl (e_m2 rfl e_hit))) e_c ?_
      refine run_nil ?_
      exact ⟨false, hr, (e_m4 rfl (e_m4 rfl (e_miss rfl h1))), (e_m4 rfl (e_m4 rfl (e_miss rfl h4))), (e_m4 rfl (e_m4 rfl (e_miss rfl h5))), (e_m4 rfl (e_m4 rfl (e_miss rfl h6))), (e_m4 rfl (e_m4 rfl (e_miss rfl h7))), (e_m4 rfl (e_m4 rfl (e_miss rfl h8))), (e_m4 rfl (e_m4 rfl (e_miss rfl h9))), e_hit, rfl⟩
    refine g_run e_hit ?_
    refine o_move (e_t (e_m2 rfl h10)) ?_
    refine g_run (e_miss rfl e_hit) ?_
    refine o_move (e_t e_hit) ?_
    refine g_splitL e_hit hr (fun hr => ?_) (fun hr => ?_)
    · refine g_skip e_hit ?_
      refine g_skip (e_miss rfl e_hit) ?_
      refine g_skip (e_m2 rfl e_hit) ?_
      refine g_run (e_m4 rfl (e_m2 rfl e_hit)) ?_
      refine o_pick_t (e_t (e_m2 rfl (e_miss rfl e_hit))) e_c ?_
      refine o_pick_t (e_t (e_m4 rfl (e_m2 rfl (e_miss rfl e_hit)))) (e_t e_hit) ?_
      refine run_nil ?_
      exact ⟨true, hr, (e_m4 rfl (e_m4 rfl (e_m2 rfl h1))), (e_m4 rfl (e_m4 rfl (e_m2 rfl h4))), (e_m4 rfl (e_m4 rfl (e_m2 rfl h5))), (e_m4 rfl (e_m4 rfl (e_m2 rfl h6))), (e_m4 rfl (e_m4 rfl (e_m2 rfl h7))), (e_m4 rfl (e_m4 rfl (e_m2 rfl h8))), (e_m4 rfl (e_m4 rfl (e_m2 rfl h9))), e_hit, rfl⟩
    refine g_run e_hit ?_
    refine o_fa (e_t (e_m4 rfl (e_miss rfl h1))) (by exact rfl) ?_
    refine g_run (e_miss rfl e_hit) ?_
    refine o_load (e_t e_hit) ((g_ext rfl 0).trans rfl) (by exact rfl) ?_
    refine g_run (e_m2 rfl e_hit) ?_
    refine o_bin (e_t e_hit) e_c (b_seql ?_)
    refine g_run (e_m4 rfl (e_m2 rfl e_hit)) ?_
    refine o_pick_f (e_t (e_m2 rfl (e_miss rfl e_hit))) (e_t e_hit) ?_
    refine o_pick_t (e_t (e_m4 rfl (e_m2 rfl (e_miss rfl e_hit)))) (e_t e_hit) ?_
    refine run_nil ?_
    exact ⟨(decide (p0.Src = (⟨#[]⟩ : ByteArray))), hr, (e_m4 rfl (e_m4 rfl (e_m2 rfl h1))), (e_m4 rfl (e_m4 rfl (e_m2 rfl h4))), (e_m4 rfl (e_m4 rfl (e_m2 rfl h5))), (e_m4 rfl (e_m4 rfl (e_m2 rfl h6))), (e_m4 rfl (e_m4 rfl (e_m2 rfl h7))), (e_m4 rfl (e_m4 rfl (e_m2 rfl h8))), (e_m4 rfl (e_m4 rfl (e_m2 rfl h9))), e_hit, rfl⟩
  rintro f st' ⟨v15, hr, h1, h4, h5, h6, h7, h8, h9, h66, rfl⟩
  rw [d_syntax_shape_j3] at hr
  refine run_join (fun f st' => ∃ (v18 : Bool), d_syntax_shape_j4 p0 v5 v6 v7 v8 v9 v18 = some r ∧ f 1 = (.ptr (st.length + 0) 0) ∧ f 5 = (.d (.bool v5)) ∧ f 6 = (.d (.bool v6)) ∧ f 7 = (.d (.bool v7)) ∧ f 8 = (.d (.int .i64 v8)) ∧ f 9 = (.d (.int .i64 v9)) ∧ f 95 = (.d (.bool v18)) ∧ st' = st ++ [(.box [(.d (.int .i64 p0.Op)), (.d (.str p0.Name)), (.d (.str p0.Src)), (.d (.int .i64 p0.N)), (.d (.sl (List.map rS p0.Cols))), (.d (.sl (List.map T_api_Expr.row p0.Exprs))), (.d (.sl (List.map T_api_Stmt.row p0.Body))), (.d (.sl (List.map T_api_Stmt.row p0.Else)))])]) ?_ ?_
  rotate_left
  · rintro f st' ⟨v18, hr, h1, h5, h6, h7, h8, h9, h95, rfl⟩
    rw [d_syntax_shape_j4] at hr
    refine run_join (fun f st' => ∃ (v19 : Bool), d_syntax_shape_j5 p0 v6 v7 v8 v9 v19 = some r ∧ f 1 = (.ptr (st.length + 0) 0) ∧ f 6 = (.d (.bool v6)) ∧ f 7 = (.d (.bool v7)) ∧ f 8 = (.d (.int .i64 v8)) ∧ f 9 = (.d (.int .i64 v9)) ∧ f 112 = (.d (.bool v19)) ∧ st' = st ++ [(.box [(.d (.int .i64 p0.Op)), (.d (.str p0.Name)), (.d (.str p0.Src)), (.d (.int .i64 p0.N)), (.d (.sl (List.map rS p0.Cols))), (.d (.sl (List.map T_api_Expr.row p0.Exprs))), (.d (.sl (List.map T_api_Stmt.row p0.Body))), (.d (.sl (List.map T_api_Stmt.row p0.Else)))])]) ?_ ?_
    · unfold x_syntax_shape_r25s4
      refine o_move (e_t h95) ?_
      refine g_splitL e_hit hr (fun hr => ?_) (fun hr => ?_)
      rotate_left
      · refine g_skip e_hit ?_
        refine g_skip (e_miss rfl e_hit) ?_
        refine g_none e_hit ?_
        refine g_none (e_miss rfl e_hit) ?_
        refine g_none (e_m2 rfl e_hit) ?_
        refine g_skip (e_m4 rfl (e_miss rfl e_hit)) ?_
        refine g_skip (e_m4 rfl (e_m2 rfl e_hit)) ?_
        refine g_none e_hit ?_
        refine g_none (e_miss rfl e_hit) ?_
        refine g_none (e_m2 rfl e_hit) ?_
        refine g_none e_hit ?_
        refine g_none (e_miss rfl e_hit) ?_
        refine g_none (e_m2 rfl e_hit) ?_
        refine g_none (e_m4 rfl (e_m2 rfl e_hit)) ?_
        refine g_skip (e_m4 rfl (e_m4 rfl (e_m4 rfl (e_m2 rfl e_hit)))) ?_
        refine o_pick_f (e_t (e_m4 rfl (e_m4 rfl (e_m4 rfl (e_m2 rfl (e_miss rfl e_hit)))))) e_c ?_
        refine run_nil ?_
        exact ⟨false, hr, (e_m4 rfl (e_m4 rfl (e_m4 rfl (e_m4 rfl (e_m2 rfl h1))))), (e_m4 rfl (e_m4 rfl (e_m4 rfl (e_m4 rfl (e_m2 rfl h6))))), (e_m4 rfl (e_m4 rfl (e_m4 rfl (e_m4 rfl (e_m2 rfl h7))))), (e_m4 rfl (e_m4 rfl (e_m4 rfl (e_m4 rfl (e_m2 rfl h8))))), (e_m4 rfl (e_m4 rfl (e_m4 rfl (e_m4 rfl (e_m2 rfl h9))))), e_hit, rfl⟩
      refine g_run e_hit ?_
      refine o_move (e_t (e_m2 rfl h5)) ?_
      refine g_run (e_miss rfl e_hit) ?_
      refine o_move (e_t e_hit) ?_
      refine g_splitL e_hit hr (fun hr => ?_) (fun hr => ?_)
      rotate_left
      · refine g_skip e_hit ?_
        refine g_skip (e_miss rfl e_hit) ?_
        refine g_skip (e_m2 rfl e_hit) ?_
        refine g_run (e_m4 rfl (e_m2 rfl e_hit)) ?_
        refine o_pick_f (e_t (e_m2 rfl (e_miss rfl e_hit))) e_c ?_
        refine g_run (e_m4 rfl (e_m2 rfl (e_miss rfl e_hit))) ?_
        refine o_move (e_t e_hit) ?_
        refine g_run e_hit ?_
        refine o_move (e_t (e_m4 rfl (e_m4 rfl (e_m2 rfl h5)))) ?_
        refine g_run (e_miss rfl e_hit) ?_
        refine o_not (e_t e_hit) ?_
        refine g_run (e_m2 rfl e_hit) ?_
        refine o_move (e_t e_hit) ?_
        refine g_splitL e_hit hr (fun hr => ?_) (fun hr => ?_)
        rotate_left
        · refine g_skip e_hit ?_
          refine g_skip (e_miss rfl e_hit) ?_
          refine g_skip (e_m2 rfl e_hit) ?_
          refine g_run (e_m4 rfl (e_m2 rfl (e_miss rfl e_hit))) ?_
          refine o_pick_f (e_t (e_m2 rfl (e_miss rfl e_hit))) e_c ?_
          refine g_run (e_m4 rfl (e_m4 rfl (e_m4 rfl (e_m4 rfl e_hit)))) ?_
          refine o_pick_f (e_t (e_m4 rfl (e_m4 rfl e_hit))) (e_t e_hit) ?_
          refine o_pick_t (e_t (e_m4 rfl (e_m4 rfl (e_m4 rfl (e_m4 rfl (e_miss rfl e_hit)))))) (e_t e_hit) ?_
          refine run_nil ?_
          exact ⟨false, hr, (e_m4 rfl (e_m4 rfl (e_m4 rfl (e_m4 rfl (e_m4 rfl h1))))), (e_m4 rfl (e_m4 rfl (e_m4 rfl (e_m4 rfl (e_m4 rfl h6))))), (e_m4 rfl (e_m4 rfl (e_m4 rfl (e_m4 rfl (e_m4 rfl h7))))), (e_m4 rfl (e_m4 rfl (e_m4 rfl (e_m4 rfl (e_m4 rfl h8))))), (e_m4 rfl (e_m4 rfl (e_m4 rfl (e_m4 rfl (e_m4 rfl h9))))), e_hit, rfl⟩
        refine g_run e_hit ?_
        refine o_fa (e_t (e_m4 rfl (e_m4 rfl (e_m4 rfl (e_m2 rfl h1))))) (by exact rfl) ?_
        refine g_run (e_miss rfl e_hit) ?_
        refine o_load (e_t e_hit) ((g_ext rfl 0).trans rfl) (by exact rfl) ?_
        refine g_run (e_m2 rfl e_hit) ?_
        refine o_bin (e_t e_hit) e_c (b_eql ?_)
        refine g_run (e_m4 rfl (e_m2 rfl (e_miss rfl e_hit))) ?_
        refine o_pick_t (e_t (e_m2 rfl (e_miss rfl e_hit))) (e_t e_hit) ?_
        refine g_run (e_m4 rfl (e_m4 rfl (e_m4 rfl (e_m4 rfl e_hit)))) ?_
        refine o_pick_f (e_t (e_m4 rfl (e_m4 rfl e_hit))) (e_t e_hit) ?_
        refine o_pick_t (e_t (e_m4 rfl (e_m4 rfl (e_m4 rfl (e_m4 rfl (e_miss rfl e_hit)))))) (e_t e_hit) ?_
        refine run_nil ?_
        exact ⟨(decide (p0.N = (0 : Int))), hr, (e_m4 rfl (e_m4 rfl (e_m4 rfl (e_m4 rfl (e_m4 rfl h1))))), (e_m4 rfl (e_m4 rfl (e_m4 rfl (e_m4 rfl (e_m4 rfl h6))))), (e_m4 rfl (e_m4 rfl (e_m4 rfl (e_m4 rfl (e_m4 rfl h7))))), (e_m4 rfl (e_m4 rfl (e_m4 rfl (e_m4 rfl (e_m4 rfl h8))))), (e_m4 rfl (e_m4 rfl (e_m4 rfl (e_m4 rfl (e_m4 rfl h9))))), e_hit, rfl⟩
      refine g_run e_hit ?_
      refine o_fa (e_t (e_m4 rfl (e_miss rfl h1))) (by exact rfl) ?_
      refine g_run (e_miss rfl e_hit) ?_
      refine o_load (e_t e_hit) ((g_ext rfl 0).trans rfl) (by exact rfl) ?_
      refine g_run (e_m2 rfl e_hit) ?_
      refine o_call (a_cons (e_t e_hit) fz_d (a_cons e_c fz_d (a_cons e_c fz_d a_nil))) ?_
      refine c_syntax_within p0.N (0 : Int) (1000 : Int) rfl ?_
      refine g_run (e_m4 rfl (e_m2 rfl e_hit)) ?_
      refine o_pick_t (e_t (e_m2 rfl (e_miss rfl e_hit))) (e_t e_hit) ?_
      refine g_run (e_m4 rfl (e_m2 rfl (e_miss rfl e_hit))) ?_
      refine o_move (e_t e_hit) ?_
      refine g_splitL e_hit hr (fun hr => ?_) (fun hr => ?_)
      · refine g_skip e_hit ?_
        refine g_skip (e_miss rfl e_hit) ?_
        refine g_skip (e_m2 rfl e_hit) ?_
        refine g_none e_hit ?_
        refine g_none (e_miss rfl e_hit) ?_
        refine g_none (e_m2 rfl e_hit) ?_
        refine g_skip (e_m4 rfl (e_m2 rfl e_hit)) ?_
        refine g_run (e_m4 rfl (e_m4 rfl (e_m4 rfl (e_m4 rfl e_hit)))) ?_
        refine o_pick_t (e_t (e_m4 rfl (e_m2 rfl (e_miss rfl e_hit)))) e_c ?_
        refine o_pick_t (e_t (e_m4 rfl (e_m4 rfl (e_m4 rfl (e_m4 rfl (e_miss rfl e_hit)))))) (e_t e_hit) ?_
        refine run_nil ?_
        exact ⟨true, hr, (e_m4 rfl (e_m4 rfl (e_m4 rfl (e_m4 rfl (e_m4 rfl h1))))), (e_m4 rfl (e_m4 rfl (e_m4 rfl (e_m4 rfl (e_m4 rfl h6))))), (e_m4 rfl (e_m4 rfl (e_m4 rfl (e_m4 rfl (e_m4 rfl h7))))), (e_m4 rfl (e_m4 rfl (e_m4 rfl (e_m4 rfl (e_m4 rfl h8))))), (e_m4 rfl (e_m4 rfl (e_m4 rfl (e_m4 rfl (e_m4 rfl h9))))), e_hit, rfl⟩
      refine g_run e_hit ?_
      refine o_move (e_t (e_m4 rfl (e_m4 rfl (e_m2 rfl (e_miss rfl h5))))) ?_
      refine g_run (e_miss rfl e_hit) ?_
      refine o_not (e_t e_hit) ?_
      refine g_run (e_m2 rfl e_hit) ?_
      refine o_move (e_t e_hit) ?_
      refine g_splitL e_hit hr (fun hr => ?_) (fun hr => ?_)
      rotate_left
      · refine g_skip e_hit ?_
        refine g_skip (e_miss rfl e_hit) ?_
        refine g_skip (e_m2 rfl e_hit) ?_
        refine g_run (e_m4 rfl (e_m2 rfl (e_miss rfl e_hit))) ?_
        refine o_pick_f (e_t (e_m2 rfl (e_miss rfl e_hit))) e_c ?_
        refine g_run (e_m4 rfl (e_m4 rfl (e_m4 rfl (e_m4 rfl (e_miss rfl e_hit))))) ?_
        refine o_pick_f (e_t (e_m4 rfl (e_m4 rfl e_hit))) (e_t e_hit) ?_
        refine o_pick_t (e_t (e_m4 rfl (e_m4 rfl (e_m4 rfl (e_m4 rfl (e_m2 rfl e_hit)))))) (e_t e_hit) ?_
        refine run_nil ?_
        exact ⟨false, hr, (e_m4 rfl (e_m4 rfl (e_m4 rfl (e_m4 rfl (e_m4 rfl (e_miss rfl h1)))))), (e_m4 rfl (e_m4 rfl (e_m4 rfl (e_m4 rfl (e_m4 rfl (e_miss rfl h6)))))), (e_m4 rfl (e_m4 rfl (e_m4 rfl (e_m4 rfl (e_m4 rfl (e_miss rfl h7)))))), (e_m4 rfl (e_m4 rfl (e_m4 rfl (e_m4 rfl (e_m4 rfl (e_miss rfl h8)))))), (e_m4 rfl (e_m4 rfl (e_m4 rfl (e_m4 rfl (e_m4 rfl (e_miss rfl h9)))))), e_hit, rfl⟩
      refine g_run e_hit ?_
      refine o_fa (e_t (e_m4 rfl (e_m4 rfl (e_m4 rfl (e_m2 rfl (e_miss rfl h1)))))) (by exact rfl) ?_
      refine g_run (e_miss rfl e_hit) ?_
      refine o_load (e_t e_hit) ((g_ext rfl 0).trans rfl) (by exact rfl) ?_
      refine g_run (e_m2 rfl e_hit) ?_
      refine o_bin (e_t e_hit) e_c (b_eql ?_)
      refine g_run (e_m4 rfl (e_m2 rfl (e_miss rfl e_hit))) ?_
      refine o_pick_t (e_t (e_m2 rfl (e_miss rfl e_hit))) (e_t e_hit) ?_
      refine g_run (e_m4 rfl (e_m4 rfl (e_m4 rfl (e_m4 rfl (e_miss rfl e_hit))))) ?_
      refine o_pick_f (e_t (e_m4 rfl (e_m4 rfl e_hit))) (e_t e_hit) ?_
      refine o_pick_t (e_t (e_m4 rfl (e_m4 rfl (e_m4 rfl (e_m4 rfl (e_m2 rfl e_hit)))))) (e_t e_hit) ?_
      refine run_nil ?_
      exact ⟨(decide (p0.N = (0 : Int))), hr, (e_m4 rfl (e_m4 rfl (e_m4 rfl (e_m4 rfl (e_m4 rfl (e_miss rfl h1)))))), (e_m4 rfl (e_m4 rfl (e_m4 rfl (e_m4 rfl (e_m4 rfl (e_miss rfl h6)))))), (e_m4 rfl (e_m4 rfl (e_m4 rfl (e_m4 rfl (e_m4 rfl (e_miss rfl h7)))))), (e_m4 rfl (e_m4 rfl (e_m4 rfl (e_m4 rfl (e_m4 rfl (e_miss rfl h8)))))), (e_m4 rfl (e_m4 rfl (e_m4 rfl (e_m4 rfl (e_m4 rfl (e_miss rfl h9)))))), e_hit, rfl⟩
    rintro f st' ⟨v19, hr, h1, h6, h7, h8, h9, h112, rfl⟩
    rw [d_syntax_shape_j5] at hr
    refine run_join (fun f st' => ∃ (v20 : Bool), d_syntax_shape_j6 p0 v6 v7 v20 = some r ∧ f 1 = (.ptr (st.length + 0) 0) ∧ f 6 = (.d (.bool v6)) ∧ f 7 = (.d (.bool v7)) ∧ f 120 = (.d (.bool v20)) ∧ st' = st ++ [(.box [(.d (.int .i64 p0.Op)), (.d (.str p0.Name)), (.d (.str p0.Src)), (.d (.int .i64 p0.N)), (.d (.sl (List.map rS p0.Cols))), (.d (.sl (List.map T_api_Expr.row p0.Exprs))), (.d (.sl (List.map T_api_Stmt.row p0.Body))), (.d (.sl (List.map T_api_Stmt.row p0.Else)))])]) ?_ ?_
    · unfold x_syntax_shape_r25s5
      refine o_move (e_t h112) ?_
      refine g_splitL e_hit hr (fun hr => ?_) (fun hr => ?_)
      rotate_left
      · refine g_skip e_hit ?_
        refine g_skip (e_miss rfl e_hit) ?_
        refine g_skip (e_m2 rfl e_hit) ?_
        refine g_skip (e_m2 rfl (e_miss rfl e_hit)) ?_
        refine g_skip (e_m4 rfl e_hit) ?_
        refine g_skip (e_m4 rfl (e_miss rfl e_hit)) ?_
        refine o_pick_f (e_t (e_m4 rfl (e_m2 rfl e_hit))) e_c ?_
        refine run_nil ?_
        exact ⟨false, hr, (e_m4 rfl (e_m4 rfl (e_miss rfl h1))), (e_m4 rfl (e_m4 rfl (e_miss rfl h6))), (e_m4 rfl (e_m4 rfl (e_miss rfl h7))), e_hit, rfl⟩
      refine g_run e_hit ?_
      refine o_fa (e_t (e_m2 rfl h1)) (by exact rfl) ?_
      refine g_run (e_miss rfl e_hit) ?_
      refine o_load (e_t e_hit) ((g_ext rfl 0).trans rfl) (by exact rfl) ?_
      refine g_run (e_m2 rfl e_hit) ?_
      refine o_lenL (row := T_api_Expr.row) (ar_of (e_t e_hit) ar_d) ?_
      refine g_run (e_m2 rfl (e_miss rfl e_hit)) ?_
      refine o_move (e_t (e_m4 rfl (e_miss rfl h8))) ?_
      refine g_run (e_m4 rfl e_hit) ?_
      refine o_move (e_t (e_m4 rfl (e_m2 rfl h9))) ?_
      refine g_run (e_m4 rfl (e_miss rfl e_hit)) ?_
      refine o_call (a_cons (e_t (e_m2 rfl e_hit)) fz_d (a_cons (e_t (e_miss rfl e_hit)) fz_d (a_cons (e_t e_hit) fz_d a_nil))) ?_
      refine c_syntax_within (p0.Exprs.length : Int) v8 v9 rfl ?_
      refine o_pick_t (e_t (e_m4 rfl (e_m2 rfl e_hit))) (e_t e_hit) ?_
      refine run_nil ?_
      exact ⟨(d_syntax_within (p0.Exprs.length : Int) v8 v9), hr, (e_m4 rfl (e_m4 rfl (e_miss rfl h1))), (e_m4 rfl (e_m4 rfl (e_miss rfl h6))), (e_m4 rfl (e_m4 rfl (e_miss rfl h7))), e_hit, rfl⟩
    rintro f st' ⟨v20, hr, h1, h6, h7, h120, rfl⟩
    rw [d_syntax_shape_j6] at hr
    refine run_join (fun f st' => ∃ (v21 : Bool), d_syntax_shape_j7 p0 v7 v21 = some r ∧ f 1 = (.ptr (st.length + 0) 0) ∧ f 7 = (.d (.bool v7)) ∧ f 129 = (.d (.bool v21)) ∧ st' = st ++ [(.box [(.d (.int .i64 p0.Op)), (.d (.str p0.Name)), (.d (.str p0.Src)), (.d (.int .i64 p0.N)), (.d (.sl (List.map rS p0.Cols))), (.d (.sl (List.map T_api_Expr.row p0.Exprs))), (.d (.sl (List.map T_api_Stmt.row p0.Body))), (.d (.sl (List.map T_api_Stmt.row p0.Else)))])]) ?_ ?_
    · unfold x_syntax_shape_r25s6
      refine o_move (e_t h120) ?_
      refine g_splitL e_hit hr (fun hr => ?_) (fun hr => ?_)
      rotate_left
      · refine g_skip e_hit ?_
        refine g_skip (e_miss rfl e_hit) ?_
        refine g_none e_hit ?_
        refine g_none (e_miss rfl e_hit) ?_
        refine g_none (e_m2 rfl e_hit) ?_
        refine g_none (e_m2 rfl (e_miss rfl e_hit)) ?_
        refine g_skip (e_m4 rfl (e_m2 rfl e_hit)) ?_
        refine o_pick_f (e_t (e_m4 rfl (e_m2 rfl (e_miss rfl e_hit)))) e_c ?_
        refine run_nil ?_
        exact ⟨false, hr, (e_m4 rfl (e_m4 rfl (e_m2 rfl h1))), (e_m4 rfl (e_m4 rfl (e_m2 rfl h7))), e_hit, rfl⟩
      refine g_run e_hit ?_
      refine o_move (e_t (e_m2 rfl h6)) ?_
      refine g_run (e_miss rfl e_hit) ?_
      refine o_move (e_t e_hit) ?_
      refine g_splitL e_hit hr (fun hr => ?_) (fun hr => ?_)
      · refine g_skip e_hit ?_
        refine g_skip (e_miss rfl e_hit) ?_
        refine g_skip (e_m2 rfl e_hit) ?_
        refine g_skip (e_m2 rfl (e_miss rfl e_hit)) ?_
        refine g_run (e_m4 rfl (e_m2 rfl (e_miss rfl e_hit))) ?_
        refine o_pick_t (e_t (e_m4 rfl e_hit)) e_c ?_
        refine o_pick_t (e_t (e_m4 rfl (e_m4 rfl e_hit))) (e_t e_hit) ?_
        refine run_nil ?_
        exact ⟨true, hr, (e_m4 rfl (e_m4 rfl (e_m2 rfl (e_miss rfl h1)))), (e_m4 rfl (e_m4 rfl (e_m2 rfl (e_miss rfl h7)))), e_hit, rfl⟩
      refine g_run e_hit ?_
      refine o_fa (e_t (e_m4 rfl (e_miss rfl h1))) (by exact rfl) ?_
      refine g_run (e_miss rfl e_hit) ?_
      refine o_load (e_t e_hit) ((g_ext rfl 0).trans rfl) (by exact rfl) ?_
      refine g_run (e_m2 rfl e_hit) ?_
      refine o_lenL (row := T_api_Stmt.row) (ar_of (e_t e_hit) ar_d) ?_
      refine g_run (e_m2 rfl (e_miss rfl e_hit)) ?_
      refine o_bin (e_t e_hit) e_c (b_eql ?_)
      refine g_run (e_m4 rfl (e_m2 rfl (e_miss rfl e_hit))) ?_
      refine o_pick_f (e_t (e_m4 rfl e_hit)) (e_t e_hit) ?_
      refine o_pick_t (e_t (e_m4 rfl (e_m4 rfl e_hit))) (e_t e_hit) ?_
      refine run_nil ?_
      exact ⟨(decide ((p0.Body.length : Int) = (0 : Int))), hr, (e_m4 rfl (e_m4 rfl (e_m2 rfl (e_miss rfl h1)))), (e_m4 rfl (e_m4 rfl (e_m2 rfl (e_miss rfl h7)))), e_hit, rfl⟩
    rintro f st' ⟨v21, hr, h1, h7, h129, rfl⟩
    rw [d_syntax_shape_j7] at hr
    refine run_app ?_
    unfold x_syntax_shape_r25s7
    refine o_move (e_t h129) ?_
    refine g_splitL e_hit hr (fun hr => ?_) (fun hr => ?_)
    rotate_left
    · refine g_skip e_hit ?_
      refine g_skip (e_miss rfl e_hit) ?_
      refine g_none e_hit ?_
      refine g_none (e_miss rfl e_hit) ?_
      refine g_none (e_m2 rfl e_hit) ?_
      refine g_none (e_m2 rfl (e_miss rfl e_hit)) ?_
      refine g_skip (e_m4 rfl (e_m2 rfl e_hit)) ?_
      refine o_pick_f (e_t (e_m4 rfl (e_m2 rfl (e_miss rfl e_hit)))) e_c ?_
      refine run_nil ?_
      unfold x_syntax_shape_r25s8
      refine o_move (e_t e_hit) ?_
      refine run_nil ?_
      refine k_then ?_
      refine x_ret ?_
      cases hr
      exact retK (r_tmp e_hit r_nil) (p_one fz_d v_d) (cutS_wf hwf) h
    refine g_run e_hit ?_
    refine o_move (e_t (e_m2 rfl h7)) ?_
    refine g_run (e_miss rfl e_hit) ?_
    refine o_move (e_t e_hit) ?_
    refine g_splitL e_hit hr (fun hr => ?_) (fun hr => ?_)
    · refine g_skip e_hit ?_
      refine g_skip (e_miss rfl e_hit) ?_
      refine g_skip (e_m2 rfl e_hit) ?_
      refine g_skip (e_m2 rfl (e_miss rfl e_hit)) ?_
      refine g_run (e_m4 rfl (e_m2 rfl (e_miss rfl e_hit))) ?_
      refine o_pick_t (e_t (e_m4 rfl e_hit)) e_c ?_
      refine o_pick_t (e_t (e_m4 rfl (e_m4 rfl e_hit))) (e_t e_hit) ?_
      refine run_nil ?_
      unfold x_syntax_shape_r25s8
      refine o_move (e_t e_hit) ?_
      refine run_nil ?_
      refine k_then ?_
      refine x_ret ?_
      cases hr
      exact retK (r_tmp e_hit r_nil) (p_one fz_d v_d) (cutS_wf hwf) h
    refine g_run e_hit ?_
    refine o_fa (e_t (e_m4 rfl (e_miss rfl h1))) (by exact rfl) ?_
    refine g_run (e_miss rfl e_hit) ?_
    refine o_load (e_t e_hit) ((g_ext rfl 0).trans rfl) (by exact rfl) ?_
    refine g_run (e_m2 rfl e_hit) ?_
    refine o_lenL (row := T_api_Stmt.row) (ar_of (e_t e_hit) ar_d) ?_
    refine g_run (e_m2 rfl (e_miss rfl e_hit)) ?_
    refine o_bin (e_t e_hit) e_c (b_eql ?_)
    refine g_run (e_m4 rfl (e_m2 rfl (e_miss rfl e_hit))) ?_
    refine o_pick_f (e_t (e_m4 rfl e_hit)) (e_t e_hit) ?_
    refine o_pick_t (e_t (e_m4 rfl (e_m4 rfl e_hit))) (e_t e_hit) ?_
    refine run_nil ?_
    unfold x_syntax_shape_r25s8
    refine o_move (e_t e_hit) ?_
    refine run_nil ?_
    refine k_then ?_
    refine x_ret ?_
    cases hr
    exact retK (r_tmp e_hit r_nil) (p_one fz_d v_d) (cutS_wf hwf) h
  unfold x_syntax_shape_r25s3
  refine o_move (e_t h66) ?_
  refine g_splitL e_hit hr (fun hr => ?_) (fun hr => ?_)
  rotate_left
  · refine g_skip e_hit ?_
    refine g_skip (e_miss rfl e_hit) ?_
    refine g_none e_hit ?_
    refine g_none (e_miss rfl e_hit) ?_
    refine g_none (e_m2 rfl e_hit) ?_
    refine g_none (e_m2 rfl (e_miss rfl e_hit)) ?_
    refine g_skip (e_m4 rfl (e_m2 rfl e_hit)) ?_
    refine g_skip (e_m4 rfl (e_m2 rfl (e_miss rfl e_hit))) ?_
    refine g_none e_hit ?_
    refine g_none (e_miss rfl e_hit) ?_
    refine g_none (e_m2 rfl e_hit) ?_
    refine g_skip (e_m4 rfl (e_m4 rfl (e_m2 rfl (e_miss rfl e_hit)))) ?_
    refine g_skip (e_m4 rfl (e_m4 rfl (e_m4 rfl e_hit))) ?_
    refine g_none e_hit ?_
    refine g_none (e_miss rfl e_hit) ?_
    refine g_none (e_m2 rfl e_hit) ?_
    refine g_skip (e_m4 rfl (e_m4 rfl (e_m4 rfl (e_m4 rfl e_hit)))) ?_
    refine g_skip (e_m4 rfl (e_m4 rfl (e_m4 rfl (e_m4 rfl (e_miss rfl e_hit))))) ?_
    refine g_none e_hit ?_
    refine g_none (e_miss rfl e_hit) ?_
    refine g_none (e_m2 rfl e_hit) ?_
    refine g_none e_hit ?_
    refine g_none (e_miss rfl e_hit) ?_
    refine g_none (e_m2 rfl e_hit) ?_
    refine g_none (e_m2 rfl (e_miss rfl e_hit)) ?_
    refine g_none (e_m4 rfl (e_m2 rfl (e_miss rfl e_hit))) ?_
    refine g_skip (e_m4 rfl (e_m4 rfl (e_m4 rfl (e_m4 rfl (e_m4 rfl (e_m4 rfl (e_m2 rfl e_hit))))))) ?_
    refine o_pick_f (e_t (e_m4 rfl (e_m4 rfl (e_m4 rfl (e_m4 rfl (e_m4 rfl (e_m4 rfl (e_m2 rfl (e_miss rfl e_hit))))))))) e_c ?_
    refine run_nil ?_
    exact ⟨false, hr, (e_m4 rfl (e_m4 rfl (e_m4 rfl (e_m4 rfl (e_m4 rfl (e_m4 rfl (e_m4 rfl (e_m2 rfl h1)))))))), (e_m4 rfl (e_m4 rfl (e_m4 rfl (e_m4 rfl (e_m4 rfl (e_m4 rfl (e_m4 rfl (e_m2 rfl h5)))))))), (e_m4 rfl (e_m4 rfl (e_m4 rfl (e_m4 rfl (e_m4 rfl (e_m4 rfl (e_m4 rfl (e_m2 rfl h6)))))))), (e_m4 rfl (e_m4 rfl (e_m4 rfl (e_m4 rfl (e_m4 rfl (e_m4 rfl (e_m4 rfl (e_m2 rfl h7)))))))), (e_m4 rfl (e_m4 rfl (e_m4 rfl (e_m4 rfl (e_m4 rfl (e_m4 rfl (e_m4 rfl (e_m2 rfl h8)))))))), (e_m4 rfl (e_m4 rfl (e_m4 rfl (e_m4 rfl (e_m4 rfl (e_m4 rfl (e_m4 rfl (e_m2 rfl h9)))))))), e_hit, rfl⟩
  refine g_run e_hit ?_
  refine o_move (e_t (e_m2 rfl h4)) ?_
  refine g_run (e_miss rfl e_hit) ?_
  refine o_move (e_t e_hit) ?_
  refine g_splitL e_hit hr (fun hr => ?_) (fun hr => ?_)
  rotate_left
  · refine g_skip e_hit ?_
    refine g_skip (e_miss rfl e_hit) ?_
    refine g_skip (e_m2 rfl e_hit) ?_
    refine g_skip (e_m2 rfl (e_miss rfl e_hit)) ?_
    refine g_run (e_m4 rfl (e_m2 rfl (e_miss rfl e_hit))) ?_
    refine o_pick_f (e_t (e_m4 rfl e_hit)) e_c ?_
    refine g_run (e_m4 rfl (e_m4 rfl e_hit)) ?_
    refine o_move (e_t e_hit) ?_
    refine g_skip e_hit ?_
    refine g_skip (e_miss rfl e_hit) ?_
    refine g_skip (e_m2 rfl e_hit) ?_
    refine g_run (e_m4 rfl (e_m4 rfl (e_m4 rfl e_hit))) ?_
    refine o_pick_f (e_t (e_m2 rfl (e_miss rfl e_hit))) e_c ?_
    refine g_run (e_m4 rfl (e_m4 rfl (e_m4 rfl (e_miss rfl e_hit)))) ?_
    refine o_move (e_t e_hit) ?_
    refine g_skip e_hit ?_
    refine g_skip (e_miss rfl e_hit) ?_
    refine g_skip (e_m2 rfl e_hit) ?_
    refine g_run (e_m4 rfl (e_m4 rfl (e_m4 rfl (e_m4 rfl (e_miss rfl e_hit))))) ?_
    refine o_pick_f (e_t (e_m2 rfl (e_miss rfl e_hit))) e_c ?_
    refine g_run (e_m4 rfl (e_m4 rfl (e_m4 rfl (e_m4 rfl (e_m2 rfl e_hit))))) ?_
    refine o_move (e_t e_hit) ?_
    refine g_run e_hit ?_
    refine o_move (e_t (e_m4 rfl (e_m4 rfl (e_m4 rfl (e_m4 rfl (e_m4 rfl (e_miss rfl h4))))))) ?_
    refine g_run (e_miss rfl e_hit) ?_
    refine o_not (e_t e_hit) ?_
    refine g_run (e_m2 rfl e_hit) ?_
    refine o_move (e_t e_hit) ?_
    refine g_splitL e_hit hr (fun hr => ?_) (fun hr => ?_)
    rotate_left
    · refine g_skip e_hit ?_
      refine g_skip (e_miss rfl e_hit) ?_
      refine g_skip (e_m2 rfl e_hit) ?_
      refine g_skip (e_m2 rfl (e_miss rfl e_hit)) ?_
      refine g_run (e_m4 rfl (e_m4 rfl e_hit)) ?_
      refine o_pick_f (e_t (e_m4 rfl e_hit)) e_c ?_
      refine g_run (e_m4 rfl (e_m4 rfl (e_m4 rfl (e_m4 rfl (e_m4 rfl (e_m4 rfl (e_m4 rfl e_hit))))))) ?_
      refine o_pick_f (e_t (e_m4 rfl (e_m4 rfl (e_miss rfl e_hit)))) (e_t e_hit) ?_
      refine o_pick_t (e_t (e_m4 rfl (e_m4 rfl (e_m4 rfl (e_m4 rfl (e_m4 rfl (e_m4 rfl (e_m4 rfl (e_miss rfl e_hit))))))))) (e_t e_hit) ?_
      refine run_nil ?_
      exact ⟨false, hr, (e_m4 rfl (e_m4 rfl (e_m4 rfl (e_m4 rfl (e_m4 rfl (e_m4 rfl (e_m4 rfl (e_m4 rfl h1)))))))), (e_m4 rfl (e_m4 rfl (e_m4 rfl (e_m4 rfl (e_m4 rfl (e_m4 rfl (e_m4 rfl (e_m4 rfl h5)))))))), (e_m4 rfl (e_m4 rfl (e_m4 rfl (e_m4 rfl (e_m4 rfl (e_m4 rfl (e_m4 rfl (e_m4 rfl h6)))))))), (e_m4 rfl (e_m4 rfl (e_m4 rfl (e_m4 rfl (e_m4 rfl (e_m4 rfl (e_m4 rfl (e_m4 rfl h7)))))))), (e_m4 rfl (e_m4 rfl (e_m4 rfl (e_m4 rfl (e_m4 rfl (e_m4 rfl (e_m4 rfl (e_m4 rfl h8)))))))), (e_m4 rfl (e_m4 rfl (e_m4 rfl (e_m4 rfl (e_m4 rfl (e_m4 rfl (e_m4 rfl (e_m4 rfl h9)))))))), e_hit, rfl⟩
    refine g_run e_hit ?_
    refine o_fa (e_t (e_m4 rfl (e_m4 rfl (e_m4 rfl (e_m4 rfl (e_m4 rfl (e_m4 rfl (e_miss rfl h1)))))))) (by exact rfl) ?_
    refine g_run (e_miss rfl e_hit) ?_
    refine o_load (e_t e_hit) ((g_ext rfl 0).trans rfl) (by exact rfl) ?_
    refine g_run (e_m2 rfl e_hit) ?_
    refine o_lenL (row := rS) (ar_of (e_t e_hit) ar_d) ?_
    refine g_run (e_m2 rfl (e_miss rfl e_hit)) ?_
    refine o_bin (e_t e_hit) e_c (b_eql ?_)
    refine g_run (e_m4 rfl (e_m4 rfl e_hit)) ?_
    refine o_pick_t (e_t (e_m4 rfl e_hit)) (e_t e_hit) ?_
    refine g_run (e_m4 rfl (e_m4 rfl (e_m4 rfl (e_m4 rfl (e_m4 rfl (e_m4 rfl (e_m4 rfl e_hit))))))) ?_
    refine o_pick_f (e_t (e_m4 rfl (e_m4 rfl (e_miss rfl e_hit)))) (e_t e_hit) ?_
    refine o_pick_t (e_t (e_m4 rfl (e_m4 rfl (e_m4 rfl (e_m4 rfl (e_m4 rfl (e_m4 rfl (e_m4 rfl (e_miss rfl e_hit))))))))) (e_t e_hit) ?_
    refine run_nil ?_
    exact ⟨(decide ((p0.Cols.length : Int) = (0 : Int))), hr, (e_m4 rfl (e_m4 rfl (e_m4 rfl (e_m4 rfl (e_m4 rfl (e_m4 rfl (e_m4 rfl (e_m4 rfl h1)))))))), (e_m4 rfl (e_m4 rfl (e_m4 rfl (e_m4 rfl (e_m4 rfl (e_m4 rfl (e_m4 rfl (e_m4 rfl h5)))))))), (e_m4 rfl (e_m4 rfl (e_m4 rfl (e_m4 rfl (e_m4 rfl (e_m4 rfl (e_m4 rfl (e_m4 rfl h6)))))))), (e_m4 rfl (e_m4 rfl (e_m4 rfl (e_m4 rfl (e_m4 rfl (e_m4 rfl (e_m4 rfl (e_m4 rfl h7)))))))), (e_m4 rfl (e_m4 rfl (e_m4 rfl (e_m4 rfl (e_m4 rfl (e_m4 rfl (e_m4 rfl (e_m4 rfl h8)))))))), (e_m4 rfl (e_m4 rfl (e_m4 rfl (e_m4 rfl (e_m4 rfl (e_m4 rfl (e_m4 rfl (e_m4 rfl h9)))))))), e_hit, rfl⟩
  refine g_run e_hit ?_
  refine o_fa (e_t (e_m4 rfl (e_miss rfl h1))) (by exact rfl) ?_
  refine g_run (e_miss rfl e_hit) ?_
  refine o_load (e_t e_hit) ((g_ext rfl 0).trans rfl) (by exact rfl) ?_
  refine g_run (e_m2 rfl e_hit) ?_
  refine o_lenL (row := rS) (ar_of (e_t e_hit) ar_d) ?_
  refine g_run (e_m2 rfl (e_miss rfl e_hit)) ?_
  refine o_call (a_cons (e_t e_hit) fz_d (a_cons e_c fz_d (a_cons e_c fz_d a_nil))) ?_
  refine c_syntax_within (p0.Cols.length : Int) (1 : Int) (8 : Int) rfl ?_
  refine g_run (e_m4 rfl (e_m2 rfl (e_miss rfl e_hit))) ?_
  refine o_pick_t (e_t (e_m4 rfl e_hit)) (e_t e_hit) ?_
  refine g_run (e_m4 rfl (e_m4 rfl e_hit)) ?_
  refine o_move (e_t e_hit) ?_
  refine g_splitL e_hit hr (fun hr => ?_) (fun hr => ?_)
  rotate_left
  · refine g_skip e_hit ?_
    refine g_skip (e_miss rfl e_hit) ?_
    refine g_skip (e_m2 rfl e_hit) ?_
    refine g_run (e_m4 rfl (e_m4 rfl (e_m4 rfl (e_miss rfl e_hit)))) ?_
    refine o_pick_f (e_t (e_m2 rfl (e_miss rfl e_hit))) e_c ?_
    refine g_run (e_m4 rfl (e_m4 rfl (e_m4 rfl (e_m2 rfl e_hit)))) ?_
    refine o_move (e_t e_hit) ?_
    refine g_skip e_hit ?_
    refine g_skip (e_miss rfl e_hit) ?_
    refine g_skip (e_m2 rfl e_hit) ?_
    refine g_run (e_m4 rfl (e_m4 rfl (e_m4 rfl (e_m4 rfl (e_m2 rfl e_hit))))) ?_
    refine o_pick_f (e_t (e_m2 rfl (e_miss rfl e_hit))) e_c ?_
    refine g_run (e_m4 rfl (e_m4 rfl (e_m4 rfl (e_m4 rfl (e_m2 rfl (e_miss rfl e_hit)))))) ?_
    refine o_move (e_t e_hit) ?_
    refine g_run e_hit ?_
    refine o_move (e_t (e_m4 rfl (e_m4 rfl (e_m4 rfl (e_m4 rfl (e_m4 rfl (e_m2 rfl h4))))))) ?_
    refine g_run (e_miss rfl e_hit) ?_
    refine o_not (e_t e_hit) ?_
    refine g_run (e_m2 rfl e_hit) ?_
    refine o_move (e_t e_hit) ?_
    refine g_splitL e_hit hr (fun hr => ?_) (fun hr => ?_)
    rotate_left
    · refine g_skip e_hit ?_
      refine g_skip (e_miss rfl e_hit) ?_
      refine g_skip (e_m2 rfl e_hit) ?_
      refine g_skip (e_m2 rfl (e_miss rfl e_hit)) ?_
      refine g_run (e_m4 rfl (e_m4 rfl e_hit)) ?_
      refine o_pick_f (e_t (e_m4 rfl e_hit)) e_c ?_
      refine g_run (e_m4 rfl (e_m4 rfl (e_m4 rfl (e_m4 rfl (e_m4 rfl (e_m4 rfl (e_m4 rfl (e_miss rfl e_hit)))))))) ?_
      refine o_pick_f (e_t (e_m4 rfl (e_m4 rfl (e_miss rfl e_hit)))) (e_t e_hit) ?_
      refine o_pick_t (e_t (e_m4 rfl (e_m4 rfl (e_m4 rfl (e_m4 rfl (e_m4 rfl (e_m4 rfl (e_m4 rfl (e_m2 rfl e_hit))))))))) (e_t e_hit) ?_
      refine run_nil ?_
      exact ⟨false, hr, (e_m4 rfl (e_m4 rfl (e_m4 rfl (e_m4 rfl (e_m4 rfl (e_m4 rfl (e_m4 rfl (e_m4 rfl (e_miss rfl h1))))))))), (e_m4 rfl (e_m4 rfl (e_m4 rfl (e_m4 rfl (e_m4 rfl (e_m4 rfl (e_m4 rfl (e_m4 rfl (e_miss rfl h5))))))))), (e_m4 rfl (e_m4 rfl (e_m4 rfl (e_m4 rfl (e_m4 rfl (e_m4 rfl (e_m4 rfl (e_m4 rfl (e_miss rfl h6))))))))), (e_m4 rfl (e_m4 rfl (e_m4 rfl (e_m4 rfl (e_m4 rfl (e_m4 rfl (e_m4 rfl (e_m4 rfl (e_miss rfl h7))))))))), (e_m4 rfl (e_m4 rfl (e_m4 rfl (e_m4 rfl (e_m4 rfl (e_m4 rfl (e_m4 rfl (e_m4 rfl (e_miss rfl h8))))))))), (e_m4 rfl (e_m4 rfl (e_m4 rfl (e_m4 rfl (e_m4 rfl (e_m4 rfl (e_m4 rfl (e_m4 rfl (e_miss rfl h9))))))))), e_hit, rfl⟩
    refine g_run e_hit ?_
    refine o_fa (e_t (e_m4 rfl (e_m4 rfl (e_m4 rfl (e_m4 rfl (e_m4 rfl (e_m4 rfl (e_m2 rfl h1)))))))) (by exact rfl) ?_
    refine g_run (e_miss rfl e_hit) ?_
    refine o_load (e_t e_hit) ((g_ext rfl 0).trans rfl) (by exact rfl) ?_
    refine g_run (e_m2 rfl e_hit) ?_
    refine o_lenL (row := rS) (ar_of (e_t e_hit) ar_d) ?_
    refine g_run (e_m2 rfl (e_miss rfl e_hit)) ?_
    refine o_bin (e_t e_hit) e_c (b_eql ?_)
    refine g_run (e_m4 rfl (e_m4 rfl e_hit)) ?_
    refine o_pick_t (e_t (e_m4 rfl e_hit)) (e_t e_hit) ?_
    refine g_run (e_m4 rfl (e_m4 rfl (e_m4 rfl (e_m4 rfl (e_m4 rfl (e_m4 rfl (e_m4 rfl (e_miss rfl e_hit)))))))) ?_
    refine o_pick_f (e_t (e_m4 rfl (e_m4 rfl (e_miss rfl e_hit)))) (e_t e_hit) ?_
    refine o_pick_t (e_t (e_m4 rfl (e_m4 rfl (e_m4 rfl (e_m4 rfl (e_m4 rfl (e_m4 rfl (e_m4 rfl (e_m2 rfl e_hit))))))))) (e_t e_hit) ?_
    refine run_nil ?_
    exact ⟨(decide ((p0.Cols.length : Int) = (0 : Int))), hr, (e_m4 rfl (e_m4 rfl (e_m4 rfl (e_m4 rfl (e_m4 rfl (e_m4 rfl (e_m4 rfl (e_m4 rfl (e_miss rfl h1))))))))), (e_m4 rfl (e_m4 rfl (e_m4 rfl (e_m4 rfl (e_m4 rfl (e_m4 rfl (e_m4 rfl (e_m4 rfl (e_miss rfl h5))))))))), (e_m4 rfl (e_m4 rfl (e_m4 rfl (e_m4 rfl (e_m4 rfl (e_m4 rfl (e_m4 rfl (e_m4 rfl (e_miss rfl h6))))))))), (e_m4 rfl (e_m4 rfl (e_m4 rfl (e_m4 rfl (e_m4 rfl (e_m4 rfl (e_m4 rfl (e_m4 rfl (e_miss rfl h7))))))))), (e_m4 rfl (e_m4 rfl (e_m4 rfl (e_m4 rfl (e_m4 rfl (e_m4 rfl (e_m4 rfl (e_m4 rfl (e_miss rfl h8))))))))), (e_m4 rfl (e_m4 rfl (e_m4 rfl (e_m4 rfl (e_m4 rfl (e_m4 rfl (e_m4 rfl (e_m4 rfl (e_miss rfl h9))))))))), e_hit, rfl⟩
  refine g_run e_hit ?_
  refine o_fa (e_t (e_m4 rfl (e_m4 rfl (e_m4 rfl h1)))) (by exact rfl) ?_
  refine g_run (e_miss rfl e_hit) ?_
  refine o_load (e_t e_hit) ((g_ext rfl 0).trans rfl) (by exact rfl) ?_
  refine g_run (e_m2 rfl e_hit) ?_
  obtain ⟨v16, hc_v16, hr⟩ := bind_some hr
  refine o_call (a_cons (e_t e_hit) fz_d a_nil) ?_
  refine c_syntax_Free n p0.Cols hc_v16 ?_
  refine g_run (e_m4 rfl (e_m4 rfl (e_m4 rfl (e_miss rfl e_hit)))) ?_
  refine o_pick_t (e_t (e_m2 rfl (e_miss rfl e_hit))) (e_t e_hit) ?_
  refine g_run (e_m4 rfl (e_m4 rfl (e_m4 rfl (e_m2 rfl e_hit)))) ?_
  refine o_move (e_t e_hit) ?_
  refine g_splitL e_hit hr (fun hr => ?_) (fun hr => ?_)
  rotate_left
  · refine g_skip e_hit ?_
    refine g_skip (e_miss rfl e_hit) ?_
    refine g_skip (e_m2 rfl e_hit) ?_
    refine g_run (e_m4 rfl (e_m4 rfl (e_m4 rfl (e_m4 rfl (e_m2 rfl (e_miss rfl e_hit)))))) ?_
    refine o_pick_f (e_t (e_m2 rfl (e_miss rfl e_hit))) e_c ?_
    refine g_run (e_m4 rfl (e_m4 rfl (e_m4 rfl (e_m4 rfl (e_m4 rfl e_hit))))) ?_
    refine o_move (e_t e_hit) ?_
    refine g_run e_hit ?_
    refine o_move (e_t (e_m4 rfl (e_m4 rfl (e_m4 rfl (e_m4 rfl (e_m4 rfl (e_m2 rfl (e_miss rfl h4)))))))) ?_
    refine g_run (e_miss rfl e_hit) ?_
    refine o_not (e_t e_hit) ?_
    refine g_run (e_m2 rfl e_hit) ?_
    refine o_move (e_t e_hit) ?_
    refine g_splitL e_hit hr (fun hr => ?_) (fun hr => ?_)
    rotate_left
    · refine g_skip e_hit ?_
      refine g_skip (e_miss rfl e_hit) ?_
      refine g_skip (e_m2 rfl e_hit) ?_
      refine g_skip (e_m2 rfl (e_miss rfl e_hit)) ?_
      refine g_run (e_m4 rfl (e_m4 rfl e_hit)) ?_
      refine o_pick_f (e_t (e_m4 rfl e_hit)) e_c ?_
      refine g_run (e_m4 rfl (e_m4 rfl (e_m4 rfl (e_m4 rfl (e_m4 rfl (e_m4 rfl (e_m4 rfl (e_m2 rfl e_hit)))))))) ?_
      refine o_pick_f (e_t (e_m4 rfl (e_m4 rfl (e_miss rfl e_hit)))) (e_t e_hit) ?_
      refine o_pick_t (e_t (e_m4 rfl (e_m4 rfl (e_m4 rfl (e_m4 rfl (e_m4 rfl (e_m4 rfl (e_m4 rfl (e_m2 rfl (e_miss rfl e_hit)))))))))) (e_t e_hit) ?_
      refine run_nil ?_
      exact ⟨false, hr, (e_m4 rfl (e_m4 rfl (e_m4 rfl (e_m4 rfl (e_m4 rfl (e_m4 rfl (e_m4 rfl (e_m4 rfl (e_m2 rfl h1))))))))), (e_m4 rfl (e_m4 rfl (e_m4 rfl (e_m4 rfl (e_m4 rfl (e_m4 rfl (e_m4 rfl (e_m4 rfl (e_m2 rfl h5))))))))), (e_m4 rfl (e_m4 rfl (e_m4 rfl (e_m4 rfl (e_m4 rfl (e_m4 rfl (e_m4 rfl (e_m4 rfl (e_m2 rfl h6))))))))), (e_m4 rfl (e_m4 rfl (e_m4 rfl (e_m4 rfl (e_m4 rfl (e_m4 rfl (e_m4 rfl (e_m4 rfl (e_m2 rfl h7))))))))), (e_m4 rfl (e_m4 rfl (e_m4 rfl (e_m4 rfl (e_m4 rfl (e_m4 rfl (e_m4 rfl (e_m4 rfl (e_m2 rfl h8))))))))), (e_m4 rfl (e_m4 rfl (e_m4 rfl (e_m4 rfl (e_m4 rfl (e_m4 rfl (e_m4 rfl (e_m4 rfl (e_m2 rfl h9))))))))), e_hit, rfl⟩
    refine g_run e_hit ?_
    refine o_fa (e_t (e_m4 rfl (e_m4 rfl (e_m4 rfl (e_m4 rfl (e_m4 rfl (e_m4 rfl (e_m2 rfl (e_miss rfl h1))))))))) (by exact rfl) ?_
    refine g_run (e_miss rfl e_hit) ?_
    refine o_load (e_t e_hit) ((g_ext rfl 0).trans rfl) (by exact rfl) ?_
    refine g_run (e_m2 rfl e_hit) ?_
    refine o_lenL (row := rS) (ar_of (e_t e_hit) ar_d) ?_
    refine g_run (e_m2 rfl (e_miss rfl e_hit)) ?_
    refine o_bin (e_t e_hit) e_c (b_eql ?_)
    refine g_run (e_m4 rfl (e_m4 rfl e_hit)) ?_
    refine o_pick_t (e_t (e_m4 rfl e_hit)) (e_t e_hit) ?_
    refine g_run (e_m4 rfl (e_m4 rfl (e_m4 rfl (e_m4 rfl (e_m4 rfl (e_m4 rfl (e_m4 rfl (e_m2 rfl e_hit)))))))) ?_
    refine o_pick_f (e_t (e_m4 rfl (e_m4 rfl (e_miss rfl e_hit)))) (e_t e_hit) ?_
    refine o_pick_t (e_t (e_m4 rfl (e_m4 rfl (e_m4 rfl (e_m4 rfl (e_m4 rfl (e_m4 rfl (e_m4 rfl (e_m2 rfl (e_miss rfl e_hit)))))))))) (e_t e_hit) ?_
    refine run_nil ?_
    exact ⟨(decide ((p0.Cols.length : Int) = (0 : Int))), hr, (e_m4 rfl (e_m4 rfl (e_m4 rfl (e_m4 rfl (e_m4 rfl (e_m4 rfl (e_m4 rfl (e_m4 rfl (e_m2 rfl h1))))))))), (e_m4 rfl (e_m4 rfl (e_m4 rfl (e_m4 rfl (e_m4 rfl (e_m4 rfl (e_m4 rfl (e_m4 rfl (e_m2 rfl h5))))))))), (e_m4 rfl (e_m4 rfl (e_m4 rfl (e_m4 rfl (e_m4 rfl (e_m4 rfl (e_m4 rfl (e_m4 rfl (e_m2 rfl h6))))))))), (e_m4 rfl (e_m4 rfl (e_m4 rfl (e_m4 rfl (e_m4 rfl (e_m4 rfl (e_m4 rfl (e_m4 rfl (e_m2 rfl h7))))))))), (e_m4 rfl (e_m4 rfl (e_m4 rfl (e_m4 rfl (e_m4 rfl (e_m4 rfl (e_m4 rfl (e_m4 rfl (e_m2 rfl h8))))))))), (e_m4 rfl (e_m4 rfl (e_m4 rfl (e_m4 rfl (e_m4 rfl (e_m4 rfl (e_m4 rfl (e_m4 rfl (e_m2 rfl h9))))))))), e_hit, rfl⟩
  refine g_run e_hit ?_
  refine o_fa (e_t (e_m4 rfl (e_m4 rfl (e_m4 rfl (e_m4 rfl (e_m2 rfl h1)))))) (by exact rfl) ?_
  refine g_run (e_miss rfl e_hit) ?_
  refine o_load (e_t e_hit) ((g_ext rfl 0).trans rfl) (by exact rfl) ?_
  refine g_run (e_m2 rfl e_hit) ?_
  obtain ⟨v17, hc_v17, hr⟩ := bind_some hr
  refine o_call (a_cons (e_t e_hit) fz_d a_nil) ?_
  refine c_unlikeL p0.Cols hc_v17 ?_
  refine g_run (e_m4 rfl (e_m4 rfl (e_m4 rfl (e_m4 rfl (e_m2 rfl (e_miss rfl e_hit)))))) ?_
  refine o_pick_t (e_t (e_m2 rfl (e_miss rfl e_hit))) (e_t e_hit) ?_
  refine g_run (e_m4 rfl (e_m4 rfl (e_m4 rfl (e_m4 rfl (e_m4 rfl e_hit))))) ?_
  refine o_move (e_t e_hit) ?_
  refine g_splitL e_hit hr (fun hr => ?_) (fun hr => ?_)
  · refine g_skip e_hit ?_
    refine g_skip (e_miss rfl e_hit) ?_
    refine g_skip (e_m2 rfl e_hit) ?_
    refine g_none e_hit ?_
    refine g_none (e_miss rfl e_hit) ?_
    refine g_none (e_m2 rfl e_hit) ?_
    refine g_none (e_m2 rfl (e_miss rfl e_hit)) ?_
    refine g_skip (e_m4 rfl (e_m2 rfl (e_miss rfl e_hit))) ?_
    refine g_run (e_m4 rfl (e_m4 rfl (e_m4 rfl (e_m4 rfl (e_m4 rfl (e_m4 rfl (e_m4 rfl (e_m2 rfl e_hit)))))))) ?_
    refine o_pick_t (e_t (e_m4 rfl (e_m4 rfl e_hit))) e_c ?_
    refine o_pick_t (e_t (e_m4 rfl (e_m4 rfl (e_m4 rfl (e_m4 rfl (e_m4 rfl (e_m4 rfl (e_m4 rfl (e_m2 rfl (e_miss rfl e_hit)))))))))) (e_t e_hit) ?_
    refine run_nil ?_
    exact ⟨true, hr, (e_m4 rfl (e_m4 rfl (e_m4 rfl (e_m4 rfl (e_m4 rfl (e_m4 rfl (e_m4 rfl (e_m4 rfl (e_m2 rfl h1))))))))), (e_m4 rfl (e_m4 rfl (e_m4 rfl (e_m4 rfl (e_m4 rfl (e_m4 rfl (e_m4 rfl (e_m4 rfl (e_m2 rfl h5))))))))), (e_m4 rfl (e_m4 rfl (e_m4 rfl (e_m4 rfl (e_m4 rfl (e_m4 rfl (e_m4 rfl (e_m4 rfl (e_m2 rfl h6))))))))), (e_m4 rfl (e_m4 rfl (e_m4 rfl (e_m4 rfl (e_m4 rfl (e_m4 rfl (e_m4 rfl (e_m4 rfl (e_m2 rfl h7))))))))), (e_m4 rfl (e_m4 rfl (e_m4 rfl (e_m4 rfl (e_m4 rfl (e_m4 rfl (e_m4 rfl (e_m4 rfl (e_m2 rfl h8))))))))), (e_m4 rfl (e_m4 rfl (e_m4 rfl (e_m4 rfl (e_m4 rfl (e_m4 rfl (e_m4 rfl (e_m4 rfl (e_m2 rfl h9))))))))), e_hit, rfl⟩
  refine g_run e_hit ?_
  refine o_move (e_t (e_m4 rfl (e_m4 rfl (e_m4 rfl (e_m4 rfl (e_m4 rfl (e_m4 rfl h4))))))) ?_
  refine g_run (e_miss rfl e_hit) ?_
  refine o_not (e_t e_hit) ?_
  refine g_run (e_m2 rfl e_hit) ?_
  refine o_move (e_t e_hit) ?_
  refine g_splitL e_hit hr (fun hr => ?_) (fun hr => ?_)
  rotate_left
  · refine g_skip e_hit ?_
    refine g_skip (e_miss rfl e_hit) ?_
    refine g_skip (e_m2 rfl e_hit) ?_
    refine g_skip (e_m2 rfl (e_miss rfl e_hit)) ?_
    refine g_run (e_m4 rfl (e_m4 rfl e_hit)) ?_
    refine o_pick_f (e_t (e_m4 rfl e_hit)) e_c ?_
    refine g_run (e_m4 rfl (e_m4 rfl (e_m4 rfl (e_m4 rfl (e_m4 rfl (e_m4 rfl (e_m4 rfl (e_m2 rfl (e_miss rfl e_hit))))))))) ?_
    refine o_pick_f (e_t (e_m4 rfl (e_m4 rfl (e_miss rfl e_hit)))) (e_t e_hit) ?_
    refine o_pick_t (e_t (e_m4 rfl (e_m4 rfl (e_m4 rfl (e_m4 rfl (e_m4 rfl (e_m4 rfl (e_m4 rfl (e_m4 rfl e_hit))))))))) (e_t e_hit) ?_
    refine run_nil ?_
    exact ⟨false, hr, (e_m4 rfl (e_m4 rfl (e_m4 rfl (e_m4 rfl (e_m4 rfl (e_m4 rfl (e_m4 rfl (e_m4 rfl (e_m2 rfl (e_miss rfl h1)))))))))), (e_m4 rfl (e_m4 rfl (e_m4 rfl (e_m4 rfl (e_m4 rfl (e_m4 rfl (e_m4 rfl (e_m4 rfl (e_m2 rfl (e_miss rfl h5)))))))))), (e_m4 rfl (e_m4 rfl (e_m4 rfl (e_m4 rfl (e_m4 rfl (e_m4 rfl (e_m4 rfl (e_m4 rfl (e_m2 rfl (e_miss rfl h6)))))))))), (e_m4 rfl (e_m4 rfl (e_m4 rfl (e_m4 rfl (e_m4 rfl (e_m4 rfl (e_m4 rfl (e_m4 rfl (e_m2 rfl (e_miss rfl h7)))))))))), (e_m4 rfl (e_m4 rfl (e_m4 rfl (e_m4 rfl (e_m4 rfl (e_m4 rfl (e_m4 rfl (e_m4 rfl (e_m2 rfl (e_miss rfl h8)))))))))), (e_m4 rfl (e_m4 rfl (e_m4 rfl (e_m4 rfl (e_m4 rfl (e_m4 rfl (e_m4 rfl (e_m4 rfl (e_m2 rfl (e_miss rfl h9)))))))))), e_hit, rfl⟩
  refine g_run e_hit ?_
  refine o_fa (e_t (e_m4 rfl (e_m4 rfl (e_m4 rfl (e_m4 rfl (e_m4 rfl (e_m4 rfl (e_m4 rfl h1)))))))) (by exact rfl) ?_
  refine g_run (e_miss rfl e_hit) ?_
  refine o_load (e_t e_hit) ((g_ext rfl 0).trans rfl) (by exact rfl) ?_
  refine g_run (e_m2 rfl e_hit) ?_
  refine o_lenL (row := rS) (ar_of (e_t e_hit) ar_d) ?_
  refine g_run (e_m2 rfl (e_miss rfl e_hit)) ?_
  refine o_bin (e_t e_hit) e_c (b_eql ?_)
  refine g_run (e_m4 rfl (e_m4 rfl e_hit)) ?_
  refine o_pick_t (e_t (e_m4 rfl e_hit)) (e_t e_hit) ?_
  refine g_run (e_m4 rfl (e_m4 rfl (e_m4 rfl (e_m4 rfl (e_m4 rfl (e_m4 rfl (e_m4 rfl (e_m2 rfl (e_miss rfl e_hit))))))))) ?_
  refine o_pick_f (e_t (e_m4 rfl (e_m4 rfl (e_miss rfl e_hit)))) (e_t e_hit) ?_
  refine o_pick_t (e_t (e_m4 rfl (e_m4 rfl (e_m4 rfl (e_m4 rfl (e_m4 rfl (e_m4 rfl (e_m4 rfl (e_m4 rfl e_hit))))))))) (e_t e_hit) ?_
  refine run_nil ?_
  exact ⟨(decide ((p0.Cols.length : Int) = (0 : Int))), hr, (e_m4 rfl (e_m4 rfl (e_m4 rfl (e_m4 rfl (e_m4 rfl (e_m4 rfl (e_m4 rfl (e_m4 rfl (e_m2 rfl (e_miss rfl h1)))))))))), (e_m4 rfl (e_m4 rfl (e_m4 rfl (e_m4 rfl (e_m4 rfl (e_m4 rfl (e_m4 rfl (e_m4 rfl (e_m2 rfl (e_miss rfl h5)))))))))), (e_m4 rfl (e_m4 rfl (e_m4 rfl (e_m4 rfl (e_m4 rfl (e_m4 rfl (e_m4 rfl (e_m4 rfl (e_m2 rfl (e_miss rfl h6)))))))))), (e_m4 rfl (e_m4 rfl (e_m4 rfl (e_m4 rfl (e_m4 rfl (e_m4 rfl (e_m4 rfl (e_m4 rfl (e_m2 rfl (e_miss rfl h7)))))))))), (e_m4 rfl (e_m4 rfl (e_m4 rfl (e_m4 rfl (e_m4 rfl (e_m4 rfl (e_m4 rfl (e_m4 rfl (e_m2 rfl (e_miss rfl h8)))))))))), (e_m4 rfl (e_m4 rfl (e_m4 rfl (e_m4 rfl (e_m4 rfl (e_m4 rfl (e_m4 rfl (e_m4 rfl (e_m2 rfl (e_miss rfl h9)))))))))), e_hit, rfl⟩
end Go.Ax
