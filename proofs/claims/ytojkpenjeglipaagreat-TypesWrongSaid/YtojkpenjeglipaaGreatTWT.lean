import Derived.Test.YtojkpenjeglipaaGreatTAxU
set_option linter.unusedVariables false
namespace Go.Ax
structure T_api_Column where
 Name : ByteArray
 Kind : Int
def T_api_Column.row (a : T_api_Column) : List D := [(.str a.Name), (.int .i64 a.Kind)]
theorem T_api_Column.row_eq (a : T_api_Column) : a.row = [(.str a.Name), (.int .i64 a.Kind)] := rfl
structure T_lex_Word where
 Kind : Int
 Text : ByteArray
 N : Int
 At : Int
def T_lex_Word.row (a : T_lex_Word) : List D := [(.int .i64 a.Kind), (.str a.Text), (.int .i64 a.N), (.int .i64 a.At)]
theorem T_lex_Word.row_eq (a : T_lex_Word) : a.row = [(.int .i64 a.Kind), (.str a.Text), (.int .i64 a.N), (.int .i64 a.At)] := rfl
structure T_types_thing where
 kind : Int
 cols : (List T_api_Column)
def T_types_thing.row (a : T_types_thing) : List D := [(.int .i64 a.kind), (.sl (List.map T_api_Column.row a.cols))]
theorem T_types_thing.row_eq (a : T_types_thing) : a.row = [(.int .i64 a.kind), (.sl (List.map T_api_Column.row a.cols))] := rfl
structure T_types_bound where
 thing : T_types_thing
 name : ByteArray
 let_ : Bool
def T_types_bound.row (a : T_types_bound) : List D := [(.int .i64 a.thing.kind), (.sl (List.map T_api_Column.row a.thing.cols)), (.str a.name), (.bool a.let_)]
theorem T_types_bound.row_eq (a : T_types_bound) : a.row = [(.int .i64 a.thing.kind), (.sl (List.map T_api_Column.row a.thing.cols)), (.str a.name), (.bool a.let_)] := rfl
structure TE where
 Op : Int
 N : Int
 S : ByteArray
 Name : ByteArray
 Src : ByteArray
 Args : (List TE)
mutual
def TE.row : TE → List D
 | ⟨v_Op, v_N, v_S, v_Name, v_Src, v_Args⟩ => [(.int .i64 v_Op), (.int .i64 v_N), (.str v_S), (.str v_Name), (.str v_Src), (.sl (TE.rows v_Args))]
def TE.rows : List TE → List (List D)
 | [] => []
 | a :: l => a.row :: TE.rows l
end
theorem TE.rows_eq : ∀ l : List TE, TE.rows l = l.map TE.row
 | [] => rfl
 | a :: l => by rw [TE.rows, TE.rows_eq l]; rfl
theorem TE.row_eq (a : TE) : a.row = [(.int .i64 a.Op), (.int .i64 a.N), (.str a.S), (.str a.Name), (.str a.Src), (.sl (List.map TE.row a.Args))] := by
 cases a
 simp only [TE.row, TE.rows_eq]
structure TS where
 Op : Int
 Name : ByteArray
 Src : ByteArray
 N : Int
 Cols : (List ByteArray)
 Exprs : (List TE)
 Body : (List TS)
 Else : (List TS)
mutual
def TS.row : TS → List D
 | ⟨v_Op, v_Name, v_Src, v_N, v_Cols, v_Exprs, v_Body, v_Else⟩ => [(.int .i64 v_Op), (.str v_Name), (.str v_Src), (.int .i64 v_N), (.sl (List.map rS v_Cols)), (.sl (List.map TE.row v_Exprs)), (.sl (TS.rows v_Body)), (.sl (TS.rows v_Else))]
def TS.rows : List TS → List (List D)
 | [] => []
 | a :: l => a.row :: TS.rows l
end
theorem TS.rows_eq : ∀ l : List TS, TS.rows l = l.map TS.row
 | [] => rfl
 | a :: l => by rw [TS.rows, TS.rows_eq l]; rfl
theorem TS.row_eq (a : TS) : a.row = [(.int .i64 a.Op), (.str a.Name), (.str a.Src), (.int .i64 a.N), (.sl (List.map rS a.Cols)), (.sl (List.map TE.row a.Exprs)), (.sl (List.map TS.row a.Body)), (.sl (List.map TS.row a.Else))] := by
 cases a
 simp only [TS.row, TS.rows_eq]
structure TLeaf where
 Op : Int
 N : Int
 S : ByteArray
 Name : ByteArray
 Src : ByteArray
 Kids : (List Int)
def TLeaf.row (a : TLeaf) : List D := [(.int .i64 a.Op), (.int .i64 a.N), (.str a.S), (.str a.Name), (.str a.Src), (.sl (List.map (rI .i64) a.Kids))]
theorem TLeaf.row_eq (a : TLeaf) : a.row = [(.int .i64 a.Op), (.int .i64 a.N), (.str a.S), (.str a.Name), (.str a.Src), (.sl (List.map (rI .i64) a.Kids))] := rfl
structure TKnot where
 Op : Int
 Name : ByteArray
 Src : ByteArray
 N : Int
 Cols : (List ByteArray)
 Exprs : (List Int)
 Body : (List Int)
 Else : (List Int)
def TKnot.row (a : TKnot) : List D := [(.int .i64 a.Op), (.str a.Name), (.str a.Src), (.int .i64 a.N), (.sl (List.map rS a.Cols)), (.sl (List.map (rI .i64) a.Exprs)), (.sl (List.map (rI .i64) a.Body)), (.sl (List.map (rI .i64) a.Else))]
theorem TKnot.row_eq (a : TKnot) : a.row = [(.int .i64 a.Op), (.str a.Name), (.str a.Src), (.int .i64 a.N), (.sl (List.map rS a.Cols)), (.sl (List.map (rI .i64) a.Exprs)), (.sl (List.map (rI .i64) a.Body)), (.sl (List.map (rI .i64) a.Else))] := rfl
structure TTree where
 Exprs : (List TE)
 Nodes : (List Int)
 Depth : (List Int)
 Stmts : (List TS)
 Much : (List Int)
 Deep : (List Int)
def TTree.row (a : TTree) : List D := [(.sl (List.map TE.row a.Exprs)), (.sl (List.map (rI .i64) a.Nodes)), (.sl (List.map (rI .i64) a.Depth)), (.sl (List.map TS.row a.Stmts)), (.sl (List.map (rI .i64) a.Much)), (.sl (List.map (rI .i64) a.Deep))]
theorem TTree.row_eq (a : TTree) : a.row = [(.sl (List.map TE.row a.Exprs)), (.sl (List.map (rI .i64) a.Nodes)), (.sl (List.map (rI .i64) a.Depth)), (.sl (List.map TS.row a.Stmts)), (.sl (List.map (rI .i64) a.Much)), (.sl (List.map (rI .i64) a.Deep))] := rfl
structure T_api_Index where
 Cols : (List Int)
 Unique : Bool
def T_api_Index.row (a : T_api_Index) : List D := [(.sl (List.map (rI .i64) a.Cols)), (.bool a.Unique)]
theorem T_api_Index.row_eq (a : T_api_Index) : a.row = [(.sl (List.map (rI .i64) a.Cols)), (.bool a.Unique)] := rfl
structure T_api_Schema where
 Name : ByteArray
 Cols : (List T_api_Column)
 Indexes : (List T_api_Index)
 Limit : Int
 Parts : Int
 By : Int
def T_api_Schema.row (a : T_api_Schema) : List D := [(.str a.Name), (.sl (List.map T_api_Column.row a.Cols)), (.sl (List.map T_api_Index.row a.Indexes)), (.int .i64 a.Limit), (.int .i64 a.Parts), (.int .i64 a.By)]
theorem T_api_Schema.row_eq (a : T_api_Schema) : a.row = [(.str a.Name), (.sl (List.map T_api_Column.row a.Cols)), (.sl (List.map T_api_Index.row a.Indexes)), (.int .i64 a.Limit), (.int .i64 a.Parts), (.int .i64 a.By)] := rfl
structure T_api_Stream where
 Name : ByteArray
 Cols : (List T_api_Column)
def T_api_Stream.row (a : T_api_Stream) : List D := [(.str a.Name), (.sl (List.map T_api_Column.row a.Cols))]
theorem T_api_Stream.row_eq (a : T_api_Stream) : a.row = [(.str a.Name), (.sl (List.map T_api_Column.row a.Cols))] := rfl
structure T_api_Window where
 Name : ByteArray
 On : ByteArray
 Owner : ByteArray
 Batches : Bool
 Size : Int
 Slide : Int
def T_api_Window.row (a : T_api_Window) : List D := [(.str a.Name), (.str a.On), (.str a.Owner), (.bool a.Batches), (.int .i64 a.Size), (.int .i64 a.Slide)]
theorem T_api_Window.row_eq (a : T_api_Window) : a.row = [(.str a.Name), (.str a.On), (.str a.Owner), (.bool a.Batches), (.int .i64 a.Size), (.int .i64 a.Slide)] := rfl
structure TP where
 Name : ByteArray
 From : ByteArray
 At : ByteArray
 Fuel : Int
 Params : (List T_api_Column)
 Body : (List TS)
def TP.row (a : TP) : List D := [(.str a.Name), (.str a.From), (.str a.At), (.int .i64 a.Fuel), (.sl (List.map T_api_Column.row a.Params)), (.sl (List.map TS.row a.Body))]
theorem TP.row_eq (a : TP) : a.row = [(.str a.Name), (.str a.From), (.str a.At), (.int .i64 a.Fuel), (.sl (List.map T_api_Column.row a.Params)), (.sl (List.map TS.row a.Body))] := rfl
structure T_law20_Node where
 Name : ByteArray
 From : ByteArray
 Emits : (List ByteArray)
 Odd : Bool
def T_law20_Node.row (a : T_law20_Node) : List D := [(.str a.Name), (.str a.From), (.sl (List.map rS a.Emits)), (.bool a.Odd)]
theorem T_law20_Node.row_eq (a : T_law20_Node) : a.row = [(.str a.Name), (.str a.From), (.sl (List.map rS a.Emits)), (.bool a.Odd)] := rfl
structure T_ref20_Step where
 Name : ByteArray
 From : ByteArray
 Emits : (List ByteArray)
def T_ref20_Step.row (a : T_ref20_Step) : List D := [(.str a.Name), (.str a.From), (.sl (List.map rS a.Emits))]
theorem T_ref20_Step.row_eq (a : T_ref20_Step) : a.row = [(.str a.Name), (.str a.From), (.sl (List.map rS a.Emits))] := rfl
structure LSay where
 Name : ByteArray
 From : ByteArray
 At : ByteArray
 Fuel : Int
 Params : (List T_api_Column)
 Leaves : (List TLeaf)
 Knots : (List TKnot)
 Body : (List Int)
def LSay.row (a : LSay) : List D := [(.str a.Name), (.str a.From), (.str a.At), (.int .i64 a.Fuel), (.sl (List.map T_api_Column.row a.Params)), (.sl (List.map TLeaf.row a.Leaves)), (.sl (List.map TKnot.row a.Knots)), (.sl (List.map (rI .i64) a.Body))]
theorem LSay.row_eq (a : LSay) : a.row = [(.str a.Name), (.str a.From), (.str a.At), (.int .i64 a.Fuel), (.sl (List.map T_api_Column.row a.Params)), (.sl (List.map TLeaf.row a.Leaves)), (.sl (List.map TKnot.row a.Knots)), (.sl (List.map (rI .i64) a.Body))] := rfl
structure T_api_Catalog where
 Tables : (List T_api_Schema)
 Streams : (List T_api_Stream)
 Windows : (List T_api_Window)
 Sinks : (List T_api_Stream)
 Procs : (List TP)
def T_api_Catalog.row (a : T_api_Catalog) : List D := [(.sl (List.map T_api_Schema.row a.Tables)), (.sl (List.map T_api_Stream.row a.Streams)), (.sl (List.map T_api_Window.row a.Windows)), (.sl (List.map T_api_Stream.row a.Sinks)), (.sl (List.map TP.row a.Procs))]
theorem T_api_Catalog.row_eq (a : T_api_Catalog) : a.row = [(.sl (List.map T_api_Schema.row a.Tables)), (.sl (List.map T_api_Stream.row a.Streams)), (.sl (List.map T_api_Window.row a.Windows)), (.sl (List.map T_api_Stream.row a.Sinks)), (.sl (List.map TP.row a.Procs))] := rfl
structure T_Ssize where
 nodes : Int
 depth : Int
def T_Ssize.row (a : T_Ssize) : List D := [(.int .i64 a.nodes), (.int .i64 a.depth)]
theorem T_Ssize.row_eq (a : T_Ssize) : a.row = [(.int .i64 a.nodes), (.int .i64 a.depth)] := rfl
structure T_ref11_Word where
 Kind : Int
 Text : ByteArray
 N : Int
 At : Int
def T_ref11_Word.row (a : T_ref11_Word) : List D := [(.int .i64 a.Kind), (.str a.Text), (.int .i64 a.N), (.int .i64 a.At)]
theorem T_ref11_Word.row_eq (a : T_ref11_Word) : a.row = [(.int .i64 a.Kind), (.str a.Text), (.int .i64 a.N), (.int .i64 a.At)] := rfl
end Go.Ax
