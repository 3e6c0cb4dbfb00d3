import Derived.Test.YtojkpenjeglipaaAxU
set_option linter.unusedVariables false
set_option linter.unusedSimpArgs false
namespace Go.Ax
structure T_api_Expr where
  Op : Int
  N : Int
  S : ByteArray
  Name : ByteArray
  Src : ByteArray
  Args : (List T_api_Expr)
mutual
def T_api_Expr.row : T_api_Expr → List D
  | ⟨v_Op, v_N, v_S, v_Name, v_Src, v_Args⟩ => [(.int .i64 v_Op), (.int .i64 v_N), (.str v_S), (.str v_Name), (.str v_Src), (.sl (T_api_Expr.rows v_Args))]
def T_api_Expr.rows : List T_api_Expr → List (List D)
  | [] => []
  | a :: l => a.row :: T_api_Expr.rows l
end
theorem T_api_Expr.rows_eq : ∀ l : List T_api_Expr, T_api_Expr.rows l = l.map T_api_Expr.row
  | [] => rfl
  | a :: l => by rw [T_api_Expr.rows, T_api_Expr.rows_eq l]; rfl
theorem T_api_Expr.row_eq (a : T_api_Expr) : a.row = [(.int .i64 a.Op), (.int .i64 a.N), (.str a.S), (.str a.Name), (.str a.Src), (.sl (List.map T_api_Expr.row a.Args))] := by
  cases a
  simp only [T_api_Expr.row, T_api_Expr.rows_eq]

structure T_api_Stmt where
  Op : Int
  Name : ByteArray
  Src : ByteArray
  N : Int
  Cols : (List ByteArray)
  Exprs : (List T_api_Expr)
  Body : (List T_api_Stmt)
  Else : (List T_api_Stmt)
mutual
def T_api_Stmt.row : T_api_Stmt → List D
  | ⟨v_Op, v_Name, v_Src, v_N, v_Cols, v_Exprs, v_Body, v_Else⟩ => [(.int .i64 v_Op), (.str v_Name), (.str v_Src), (.int .i64 v_N), (.sl (List.map rS v_Cols)), (.sl (List.map T_api_Expr.row v_Exprs)), (.sl (T_api_Stmt.rows v_Body)), (.sl (T_api_Stmt.rows v_Else))]
def T_api_Stmt.rows : List T_api_Stmt → List (List D)
  | [] => []
  | a :: l => a.row :: T_api_Stmt.rows l
end
theorem T_api_Stmt.rows_eq : ∀ l : List T_api_Stmt, T_api_Stmt.rows l = l.map T_api_Stmt.row
  | [] => rfl
  | a :: l => by rw [T_api_Stmt.rows, T_api_Stmt.rows_eq l]; rfl
theorem T_api_Stmt.row_eq (a : T_api_Stmt) : a.row = [(.int .i64 a.Op), (.str a.Name), (.str a.Src), (.int .i64 a.N), (.sl (List.map rS a.Cols)), (.sl (List.map T_api_Expr.row a.Exprs)), (.sl (List.map T_api_Stmt.row a.Body)), (.sl (List.map T_api_Stmt.row a.Else))] := by
  cases a
  simp only [T_api_Stmt.row, T_api_Stmt.rows_eq]

structure T_syntax_size where
  nodes : Int
  depth : Int
def T_syntax_size.row (a : T_syntax_size) : List D := [(.int .i64 a.nodes), (.int .i64 a.depth)]
theorem T_syntax_size.row_eq (a : T_syntax_size) : a.row = [(.int .i64 a.nodes), (.int .i64 a.depth)] := rfl

structure T_api_Column where
  Name : ByteArray
  Kind : Int
def T_api_Column.row (a : T_api_Column) : List D := [(.str a.Name), (.int .i64 a.Kind)]
theorem T_api_Column.row_eq (a : T_api_Column) : a.row = [(.str a.Name), (.int .i64 a.Kind)] := rfl

structure T_api_Proc where
  Name : ByteArray
  From : ByteArray
  At : ByteArray
  Fuel : Int
  Params : (List T_api_Column)
  Body : (List T_api_Stmt)
def T_api_Proc.row (a : T_api_Proc) : List D := [(.str a.Name), (.str a.From), (.str a.At), (.int .i64 a.Fuel), (.sl (List.map T_api_Column.row a.Params)), (.sl (List.map T_api_Stmt.row a.Body))]
theorem T_api_Proc.row_eq (a : T_api_Proc) : a.row = [(.str a.Name), (.str a.From), (.str a.At), (.int .i64 a.Fuel), (.sl (List.map T_api_Column.row a.Params)), (.sl (List.map T_api_Stmt.row a.Body))] := rfl

structure T_ref12_Leaf where
  Op : Int
  N : Int
  S : ByteArray
  Name : ByteArray
  Src : ByteArray
  Kids : (List Int)
def T_ref12_Leaf.row (a : T_ref12_Leaf) : List D := [(.int .i64 a.Op), (.int .i64 a.N), (.str a.S), (.str a.Name), (.str a.Src), (.sl (List.map (rI .i64) a.Kids))]
theorem T_ref12_Leaf.row_eq (a : T_ref12_Leaf) : a.row = [(.int .i64 a.Op), (.int .i64 a.N), (.str a.S), (.str a.Name), (.str a.Src), (.sl (List.map (rI .i64) a.Kids))] := rfl

structure T_ref12_Knot where
  Op : Int
  Name : ByteArray
  Src : ByteArray
  N : Int
  Cols : (List ByteArray)
  Exprs : (List Int)
  Body : (List Int)
  Else : (List Int)
def T_ref12_Knot.row (a : T_ref12_Knot) : List D := [(.int .i64 a.Op), (.str a.Name), (.str a.Src), (.int .i64 a.N), (.sl (List.map rS a.Cols)), (.sl (List.map (rI .i64) a.Exprs)), (.sl (List.map (rI .i64) a.Body)), (.sl (List.map (rI .i64) a.Else))]
theorem T_ref12_Knot.row_eq (a : T_ref12_Knot) : a.row = [(.int .i64 a.Op), (.str a.Name), (.str a.Src), (.int .i64 a.N), (.sl (List.map rS a.Cols)), (.sl (List.map (rI .i64) a.Exprs)), (.sl (List.map (rI .i64) a.Body)), (.sl (List.map (rI .i64) a.Else))] := rfl

structure T_ref12_Tree where
  Exprs : (List T_api_Expr)
  Nodes : (List Int)
  Depth : (List Int)
  Stmts : (List T_api_Stmt)
  Much : (List Int)
  Deep : (List Int)
def T_ref12_Tree.row (a : T_ref12_Tree) : List D := [(.sl (List.map T_api_Expr.row a.Exprs)), (.sl (List.map (rI .i64) a.Nodes)), (.sl (List.map (rI .i64) a.Depth)), (.sl (List.map T_api_Stmt.row a.Stmts)), (.sl (List.map (rI .i64) a.Much)), (.sl (List.map (rI .i64) a.Deep))]
theorem T_ref12_Tree.row_eq (a : T_ref12_Tree) : a.row = [(.sl (List.map T_api_Expr.row a.Exprs)), (.sl (List.map (rI .i64) a.Nodes)), (.sl (List.map (rI .i64) a.Depth)), (.sl (List.map T_api_Stmt.row a.Stmts)), (.sl (List.map (rI .i64) a.Much)), (.sl (List.map (rI .i64) a.Deep))] := rfl

structure T_law12_Say where
  Name : ByteArray
  From : ByteArray
  At : ByteArray
  Fuel : Int
  Params : (List T_api_Column)
  Leaves : (List T_ref12_Leaf)
  Knots : (List T_ref12_Knot)
  Body : (List Int)
def T_law12_Say.row (a : T_law12_Say) : List D := [(.str a.Name), (.str a.From), (.str a.At), (.int .i64 a.Fuel), (.sl (List.map T_api_Column.row a.Params)), (.sl (List.map T_ref12_Leaf.row a.Leaves)), (.sl (List.map T_ref12_Knot.row a.Knots)), (.sl (List.map (rI .i64) a.Body))]
theorem T_law12_Say.row_eq (a : T_law12_Say) : a.row = [(.str a.Name), (.str a.From), (.str a.At), (.int .i64 a.Fuel), (.sl (List.map T_api_Column.row a.Params)), (.sl (List.map T_ref12_Leaf.row a.Leaves)), (.sl (List.map T_ref12_Knot.row a.Knots)), (.sl (List.map (rI .i64) a.Body))] := rfl

end Go.Ax
