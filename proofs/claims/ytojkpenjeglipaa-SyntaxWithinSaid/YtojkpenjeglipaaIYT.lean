import Derived.Test.YtojkpenjeglipaaIAxU
set_option linter.unusedVariables false
set_option linter.unusedSimpArgs false
namespace Go.Ax
structure TE where
 Op : Int
 N : Int
 S : ByteArray
 Name : ByteArray
 Src : ByteArray
 Args : (List TE)
mutual
def TE.row : TE → List D
 | ⟨v_Op, v_N, v_S, v_Name, v_Src, v_Args⟩ => [(.int .i64 v_Op), (.int .i64 v_N), (.str v_S), (.str v_Name), (.str v_Src), (.sl (TE.rows v_Args))]
def TE.rows : List TE → List (List D)
 | [] => []
 | a :: l => a.row :: TE.rows l
end
theorem TE.rows_eq : ∀ l : List TE, TE.rows l = l.map TE.row
 | [] => rfl
 | a :: l => by rw [TE.rows, TE.rows_eq l]; rfl
theorem TE.row_eq (a : TE) : a.row = [(.int .i64 a.Op), (.int .i64 a.N), (.str a.S), (.str a.Name), (.str a.Src), (.sl (List.map TE.row a.Args))] := by
 cases a
 simp only [TE.row, TE.rows_eq]
structure TS where
 Op : Int
 Name : ByteArray
 Src : ByteArray
 N : Int
 Cols : (List ByteArray)
 Exprs : (List TE)
 Body : (List TS)
 Else : (List TS)
mutual
def TS.row : TS → List D
 | ⟨v_Op, v_Name, v_Src, v_N, v_Cols, v_Exprs, v_Body, v_Else⟩ => [(.int .i64 v_Op), (.str v_Name), (.str v_Src), (.int .i64 v_N), (.sl (List.map rS v_Cols)), (.sl (List.map TE.row v_Exprs)), (.sl (TS.rows v_Body)), (.sl (TS.rows v_Else))]
def TS.rows : List TS → List (List D)
 | [] => []
 | a :: l => a.row :: TS.rows l
end
theorem TS.rows_eq : ∀ l : List TS, TS.rows l = l.map TS.row
 | [] => rfl
 | a :: l => by rw [TS.rows, TS.rows_eq l]; rfl
theorem TS.row_eq (a : TS) : a.row = [(.int .i64 a.Op), (.str a.Name), (.str a.Src), (.int .i64 a.N), (.sl (List.map rS a.Cols)), (.sl (List.map TE.row a.Exprs)), (.sl (List.map TS.row a.Body)), (.sl (List.map TS.row a.Else))] := by
 cases a
 simp only [TS.row, TS.rows_eq]
structure T_Ssize where
 nodes : Int
 depth : Int
def T_Ssize.row (a : T_Ssize) : List D := [(.int .i64 a.nodes), (.int .i64 a.depth)]
theorem T_Ssize.row_eq (a : T_Ssize) : a.row = [(.int .i64 a.nodes), (.int .i64 a.depth)] := rfl
structure T_api_Column where
 Name : ByteArray
 Kind : Int
def T_api_Column.row (a : T_api_Column) : List D := [(.str a.Name), (.int .i64 a.Kind)]
theorem T_api_Column.row_eq (a : T_api_Column) : a.row = [(.str a.Name), (.int .i64 a.Kind)] := rfl
structure TP where
 Name : ByteArray
 From : ByteArray
 At : ByteArray
 Fuel : Int
 Params : (List T_api_Column)
 Body : (List TS)
def TP.row (a : TP) : List D := [(.str a.Name), (.str a.From), (.str a.At), (.int .i64 a.Fuel), (.sl (List.map T_api_Column.row a.Params)), (.sl (List.map TS.row a.Body))]
theorem TP.row_eq (a : TP) : a.row = [(.str a.Name), (.str a.From), (.str a.At), (.int .i64 a.Fuel), (.sl (List.map T_api_Column.row a.Params)), (.sl (List.map TS.row a.Body))] := rfl
structure TLeaf where
 Op : Int
 N : Int
 S : ByteArray
 Name : ByteArray
 Src : ByteArray
 Kids : (List Int)
def TLeaf.row (a : TLeaf) : List D := [(.int .i64 a.Op), (.int .i64 a.N), (.str a.S), (.str a.Name), (.str a.Src), (.sl (List.map (rI .i64) a.Kids))]
theorem TLeaf.row_eq (a : TLeaf) : a.row = [(.int .i64 a.Op), (.int .i64 a.N), (.str a.S), (.str a.Name), (.str a.Src), (.sl (List.map (rI .i64) a.Kids))] := rfl
structure TKnot where
 Op : Int
 Name : ByteArray
 Src : ByteArray
 N : Int
 Cols : (List ByteArray)
 Exprs : (List Int)
 Body : (List Int)
 Else : (List Int)
def TKnot.row (a : TKnot) : List D := [(.int .i64 a.Op), (.str a.Name), (.str a.Src), (.int .i64 a.N), (.sl (List.map rS a.Cols)), (.sl (List.map (rI .i64) a.Exprs)), (.sl (List.map (rI .i64) a.Body)), (.sl (List.map (rI .i64) a.Else))]
theorem TKnot.row_eq (a : TKnot) : a.row = [(.int .i64 a.Op), (.str a.Name), (.str a.Src), (.int .i64 a.N), (.sl (List.map rS a.Cols)), (.sl (List.map (rI .i64) a.Exprs)), (.sl (List.map (rI .i64) a.Body)), (.sl (List.map (rI .i64) a.Else))] := rfl
structure TTree where
 Exprs : (List TE)
 Nodes : (List Int)
 Depth : (List Int)
 Stmts : (List TS)
 Much : (List Int)
 Deep : (List Int)
def TTree.row (a : TTree) : List D := [(.sl (List.map TE.row a.Exprs)), (.sl (List.map (rI .i64) a.Nodes)), (.sl (List.map (rI .i64) a.Depth)), (.sl (List.map TS.row a.Stmts)), (.sl (List.map (rI .i64) a.Much)), (.sl (List.map (rI .i64) a.Deep))]
theorem TTree.row_eq (a : TTree) : a.row = [(.sl (List.map TE.row a.Exprs)), (.sl (List.map (rI .i64) a.Nodes)), (.sl (List.map (rI .i64) a.Depth)), (.sl (List.map TS.row a.Stmts)), (.sl (List.map (rI .i64) a.Much)), (.sl (List.map (rI .i64) a.Deep))] := rfl
structure LSay where
 Name : ByteArray
 From : ByteArray
 At : ByteArray
 Fuel : Int
 Params : (List T_api_Column)
 Leaves : (List TLeaf)
 Knots : (List TKnot)
 Body : (List Int)
def LSay.row (a : LSay) : List D := [(.str a.Name), (.str a.From), (.str a.At), (.int .i64 a.Fuel), (.sl (List.map T_api_Column.row a.Params)), (.sl (List.map TLeaf.row a.Leaves)), (.sl (List.map TKnot.row a.Knots)), (.sl (List.map (rI .i64) a.Body))]
theorem LSay.row_eq (a : LSay) : a.row = [(.str a.Name), (.str a.From), (.str a.At), (.int .i64 a.Fuel), (.sl (List.map T_api_Column.row a.Params)), (.sl (List.map TLeaf.row a.Leaves)), (.sl (List.map TKnot.row a.Knots)), (.sl (List.map (rI .i64) a.Body))] := rfl
end Go.Ax
