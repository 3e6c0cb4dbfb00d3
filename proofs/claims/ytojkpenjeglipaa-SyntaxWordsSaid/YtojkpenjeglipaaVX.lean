/- The functions, translated for the abstract machine: printed by a program of this repository (wip/ax/GenAx.lean); each translation is checked by the kernel. -/
import Derived.Test.YtojkpenjeglipaaProg
import Derived.Test.YtojkpenjeglipaaAxVk
import Derived.KernelRfl
set_option linter.unusedVariables false
namespace Go.Ax
open Go.Proofs
noncomputable abbrev PR : Program := Try.prog
abbrev n_main_main : Nat := 0
abbrev n_gosem_cut : Nat := 1
abbrev n_gosem_cut_init : Nat := 2
abbrev n_affluxlaw12_SyntaxWords : Nat := 3
abbrev n_affluxlaw12_SyntaxWithin : Nat := 4
abbrev n_affluxlaw12_SyntaxProcs : Nat := 5
abbrev n_affluxlaw12_awake : Nat := 6
abbrev n_syntax_Reserved : Nat := 7
abbrev n_affluxref12_Reserved : Nat := 8
abbrev n_syntax_Free : Nat := 9
abbrev n_affluxref12_Free : Nat := 10
abbrev n_affluxlaw12_Of : Nat := 11
abbrev n_syntax_Size : Nat := 12
abbrev n_syntax_Reads : Nat := 13
abbrev n_affluxref05_Same : Nat := 14
abbrev n_affluxref12_Put : Nat := 15
abbrev n_syntax_Right : Nat := 16
abbrev n_affluxref12_Uses : Nat := 17
abbrev n_syntax_Writes : Nat := 18
abbrev n_syntax_Emits : Nat := 19
abbrev n_slices_Contains_string_string : Nat := 20
abbrev n_syntax_words : Nat := 21
abbrev n_schema_Named : Nat := 22
abbrev n_slices_ContainsFunc_string_string : Nat := 23
abbrev n_affluxref03_Named : Nat := 24
abbrev n_affluxref12_Great : Nat := 25
abbrev n_affluxref12_Build : Nat := 26
abbrev n_affluxref12_Told : Nat := 27
abbrev n_affluxref12_Heads : Nat := 28
abbrev n_affluxref12_Blocks : Nat := 29
abbrev n_syntax_all_api_Stmt : Nat := 30
abbrev n_syntax_sizeStmt : Nat := 31
abbrev n_syntax_size_told : Nat := 32
abbrev n_slices_Sorted_string : Nat := 33
abbrev n_maps_Keys_map_string_bool_string_bool : Nat := 34
abbrev n_syntax_used : Nat := 35
abbrev n_syntax_heads : Nat := 36
abbrev n_syntax_size_small : Nat := 37
abbrev n_syntax_blocks : Nat := 38
abbrev n_affluxref12_sources : Nat := 39
abbrev n_slices_Index_string_string : Nat := 40
abbrev n_schema_named : Nat := 41
abbrev n_slices_IndexFunc_string_string : Nat := 42
abbrev n_affluxref12_pick : Nat := 43
abbrev n_affluxref12_Built : Nat := 44
abbrev n_syntax_size_full : Nat := 45
abbrev n_syntax_size_add : Nat := 46
abbrev n_syntax_all_api_Expr : Nat := 47
abbrev n_syntax_sizeExpr : Nat := 48
abbrev n_syntax_over : Nat := 49
abbrev n_slices_Collect_string : Nat := 50
abbrev n_slices_Sort_string_string : Nat := 51
abbrev n_maps_Keys_map_string_bool_string_bool_1 : Nat := 52
abbrev n_syntax_uses_stmt : Nat := 53
abbrev n_syntax_within : Nat := 54
abbrev n_syntax_unlike : Nat := 55
abbrev n_slices_ContainsFunc_api_Stmt_api_Stmt : Nat := 56
abbrev n_syntax_blocks_1 : Nat := 57
abbrev n_syntax_built : Nat := 58
abbrev n_schema_letter : Nat := 59
abbrev n_schema_part : Nat := 60
abbrev n_affluxref12_in : Nat := 61
abbrev n_affluxref12_BuiltExpr : Nat := 62
abbrev n_slices_AppendSeq_string_string : Nat := 63
abbrev n_slices_pdqsortOrdered_string : Nat := 64
abbrev n_math_bits_Len : Nat := 65
abbrev n_syntax_uses_expr : Nat := 66
abbrev n_slices_Clone_api_Stmt_api_Stmt : Nat := 67
abbrev n_slices_Compact_string_string : Nat := 68
abbrev n_slices_Values_string_string : Nat := 69
abbrev n_slices_IndexFunc_api_Stmt_api_Stmt : Nat := 70
abbrev n_syntax_shape : Nat := 71
abbrev n_slices_ContainsFunc_api_Expr_api_Expr : Nat := 72
abbrev n_syntax_built_1 : Nat := 73
abbrev n_syntax_builtExpr : Nat := 74
abbrev n_slices_insertionSortOrdered_string : Nat := 75
abbrev n_slices_heapSortOrdered_string : Nat := 76
abbrev n_slices_breakPatternsOrdered_string : Nat := 77
abbrev n_slices_choosePivotOrdered_string : Nat := 78
abbrev n_slices_reverseRangeOrdered_string : Nat := 79
abbrev n_slices_partialInsertionSortOrdered_string : Nat := 80
abbrev n_cmp_Less_string : Nat := 81
abbrev n_slices_partitionEqualOrdered_string : Nat := 82
abbrev n_slices_partitionOrdered_string : Nat := 83
abbrev n_math_bits_Len32 : Nat := 84
abbrev n_math_bits_Len64 : Nat := 85
abbrev n_syntax_args : Nat := 86
abbrev n_slices_Values_string_string_1 : Nat := 87
abbrev n_syntax_has : Nat := 88
abbrev n_slices_IndexFunc_api_Expr_api_Expr : Nat := 89
abbrev n_syntax_fields : Nat := 90
abbrev n_syntax_builtExpr_1 : Nat := 91
abbrev n_slices_siftDownOrdered_string : Nat := 92
abbrev n_slices_nextPowerOfTwo : Nat := 93
abbrev n_slices_xorshift_Next : Nat := 94
abbrev n_slices_medianAdjacentOrdered_string : Nat := 95
abbrev n_slices_medianOrdered_string : Nat := 96
abbrev n_cmp_isNaN_string : Nat := 97
abbrev n_slices_order2Ordered_string : Nat := 98
abbrev n_runtime_boundsError_Error : Nat := 99
abbrev n_runtime_boundsError_RuntimeError : Nat := 100
abbrev n_runtime_errorString_Error : Nat := 101
abbrev n_runtime_errorString_RuntimeError : Nat := 102
abbrev n_runtime_plainError_Error : Nat := 103
abbrev n_runtime_plainError_RuntimeError : Nat := 104
abbrev n_runtime_errorAddressString_Error : Nat := 105
abbrev n_runtime_errorAddressString_RuntimeError : Nat := 106
abbrev n_runtime_TypeAssertionError_Error : Nat := 107
abbrev n_runtime_TypeAssertionError_RuntimeError : Nat := 108
abbrev n_runtime_PanicNilError_Error : Nat := 109
abbrev n_runtime_PanicNilError_RuntimeError : Nat := 110
abbrev n_internal_abi_Type_Align : Nat := 111
abbrev n_internal_runtime_maps_unhashableTypeError_Error : Nat := 112
abbrev n_internal_runtime_maps_unhashableTypeError_RuntimeError : Nat := 113
abbrev n_internal_abi_Kind_String : Nat := 114
abbrev ty_api_Stmt : Nat := 52
abbrev ty_string : Nat := 9
abbrev ty_api_Expr : Nat := 50
abbrev ty_int : Nat := 3
abbrev ty_bool : Nat := 4

def x_affluxlaw12_SyntaxWords_r0 : List XI := [{ dst := some 4, op := .move (.c (.d (.bool false))) }]
def x_affluxlaw12_SyntaxWords_r1 : List XI := [{ dst := some 5, op := .move (.t 0) }, { dst := some 6, op := .lenS (.t 5) }, { dst := some 7, op := .bin .gtr (.t 6) (.c (.d (.int .i64 100))) }, { dst := some 8, op := .move (.t 7) }, { dst := some 9, op := .move (.t 1), guard := some (8, false) }, { dst := some 10, op := .lenS (.t 9), guard := some (8, false) }, { dst := some 11, op := .bin .gtr (.t 10) (.c (.d (.int .i64 100))), guard := some (8, false) }, { dst := some 12, op := .pick (.t 8) (.c (.d (.bool true))) (.t 11) }]
def x_affluxlaw12_SyntaxWords_r2 : List XI := [{ dst := some 13, op := .call n_affluxlaw12_awake [] }, { dst := some 4, op := .move (.t 13) }]
def x_affluxlaw12_SyntaxWords_r3s0 : List XI := [{ dst := some 14, op := .move (.t 0) }, { dst := some 15, op := .call n_syntax_Reserved [(.t 14)] }, { dst := some 16, op := .move (.t 0) }, { dst := some 17, op := .call n_affluxref12_Reserved [(.t 16)] }, { dst := some 18, op := .eqBool false (.t 15) (.t 17) }, { dst := some 19, op := .move (.t 18) }, { dst := some 20, op := .move (.t 0), guard := some (19, true) }, { dst := some 21, op := .buildSlice 1 [(.t 20)], guard := some (19, true) }, { dst := some 22, op := .call n_syntax_Free [(.t 21)], guard := some (19, true) }, { dst := some 23, op := .move (.t 0), guard := some (19, true) }, { dst := some 24, op := .call n_affluxref12_Free [(.t 23)], guard := some (19, true) }, { dst := some 25, op := .eqBool false (.t 22) (.t 24), guard := some (19, true) }, { dst := some 26, op := .pick (.t 19) (.t 25) (.c (.d (.bool false))) }]
def x_affluxlaw12_SyntaxWords_r3s1 : List XI := [{ dst := some 27, op := .move (.t 26) }, { dst := some 28, op := .move (.t 0), guard := some (27, true) }, { dst := some 29, op := .move (.t 1), guard := some (27, true) }, { dst := some 30, op := .buildSlice 1 [(.t 28), (.t 29)], guard := some (27, true) }, { dst := some 31, op := .call n_syntax_Free [(.t 30)], guard := some (27, true) }, { dst := some 32, op := .move (.t 0), guard := some (27, true) }, { dst := some 33, op := .call n_affluxref12_Free [(.t 32)], guard := some (27, true) }, { dst := some 34, op := .move (.t 33), guard := some (27, true) }, { dst := some 35, op := .move (.t 1), guard := some (34, true) }, { dst := some 36, op := .call n_affluxref12_Free [(.t 35)], guard := some (34, true) }, { dst := some 37, op := .pick (.t 34) (.t 36) (.c (.d (.bool false))), guard := some (27, true) }, { dst := some 38, op := .eqBool false (.t 31) (.t 37), guard := some (27, true) }, { dst := some 39, op := .pick (.t 27) (.t 38) (.c (.d (.bool false))) }]
def x_affluxlaw12_SyntaxWords_r3s2 : List XI := [{ dst := some 40, op := .move (.t 39) }, { dst := some 41, op := .call n_syntax_Free [(.c (.ex []))], guard := some (40, true) }, { dst := some 42, op := .pick (.t 40) (.t 41) (.c (.d (.bool false))) }]
def x_affluxlaw12_SyntaxWords_r3s3 : List XI := [{ dst := some 43, op := .move (.t 42) }, { dst := some 44, op := .call n_affluxlaw12_awake [], guard := some (43, true) }, { dst := some 45, op := .pick (.t 43) (.t 44) (.c (.d (.bool false))) }]
def x_affluxlaw12_SyntaxWords_r3s4 : List XI := [{ dst := some 4, op := .move (.t 45) }]
def x_affluxlaw12_SyntaxWords_r3 : List XI := x_affluxlaw12_SyntaxWords_r3s0 ++ (x_affluxlaw12_SyntaxWords_r3s1 ++ (x_affluxlaw12_SyntaxWords_r3s2 ++ (x_affluxlaw12_SyntaxWords_r3s3 ++ (x_affluxlaw12_SyntaxWords_r3s4))))
def x_affluxlaw12_SyntaxWords : XC :=
 (.seq (.region x_affluxlaw12_SyntaxWords_r0)
 (.seq (.seq (.region x_affluxlaw12_SyntaxWords_r1)
 (.cond (.t 12)
 (.seq (.region x_affluxlaw12_SyntaxWords_r2)
 .ret)
 .skip))
 (.seq (.region x_affluxlaw12_SyntaxWords_r3)
 .ret)))
theorem F_affluxlaw12_SyntaxWords : Fn PR n_affluxlaw12_SyntaxWords 46 x_affluxlaw12_SyntaxWords [.tmp 4] := ⟨fun vs w => Try.call3 vs w, Try.f3, _, Try.func3, rfl, rfl, by kernel_rfl, by kernel_rfl⟩

def x_affluxlaw12_awake_r0 : List XI := [{ dst := some 0, op := .move (.c (.d (.bool false))) }]
def x_affluxlaw12_awake_r1 : List XI := [{ dst := some 5, op := .build [(.d (.int .i64 0)), (.d (.int .i64 0)), (.d (.str ⟨#[]⟩)), (.d (.str ⟨#[]⟩)), (.d (.str ⟨#[]⟩)), (.ex [])] [(0, 1, (.c (.d (.int .i64 3)))), (1, 1, (.c (.d (.int .i64 1))))] }, { dst := some 1, op := .alloc [(.d (.int .i64 0)), (.d (.int .i64 0)), (.d (.str ⟨#[]⟩)), (.d (.str ⟨#[]⟩)), (.d (.str ⟨#[]⟩)), (.ex [])] }, { dst := none, op := .store 6 (.t 1) (.t 5) }]
def x_affluxlaw12_awake_r2 : List XI := [{ dst := some 6, op := .load true 6 (.t 1) }, { dst := some 7, op := .buildSlice 6 [(.t 6)] }, { dst := some 8, op := .build [(.d (.int .i64 0)), (.d (.str ⟨#[]⟩)), (.d (.str ⟨#[]⟩)), (.d (.int .i64 0)), (.ex []), (.ex []), (.ex []), (.ex [])] [(0, 1, (.c (.d (.int .i64 5)))), (1, 1, (.c (.d (.str ⟨#[97]⟩)))), (2, 1, (.c (.d (.str ⟨#[116]⟩)))), (5, 1, (.t 7))] }, { dst := some 9, op := .buildSlice 8 [(.t 8)] }, { dst := some 10, op := .build [(.d (.str ⟨#[]⟩)), (.d (.str ⟨#[]⟩)), (.d (.str ⟨#[]⟩)), (.d (.int .i64 0)), (.ex []), (.ex [])] [(0, 1, (.c (.d (.str ⟨#[112]⟩)))), (3, 1, (.c (.d (.int .i64 1)))), (5, 1, (.t 9))] }, { dst := some 2, op := .alloc [(.d (.str ⟨#[]⟩)), (.d (.str ⟨#[]⟩)), (.d (.str ⟨#[]⟩)), (.d (.int .i64 0)), (.ex []), (.ex [])] }, { dst := none, op := .store 6 (.t 2) (.t 10) }]
def x_affluxlaw12_awake_r3 : List XI := [{ dst := some 12, op := .load true 6 (.t 2) }, { dst := some 13, op := .call n_syntax_Size [(.t 12)] }, { dst := some 11, op := .move (.t 13) }, { dst := some 14, op := .extract (.t 11) 0 }, { dst := some 15, op := .extract (.t 11) 1 }, { dst := some 3, op := .move (.t 14) }, { dst := some 4, op := .move (.t 15) }]
def x_affluxlaw12_awake_r4s0 : List XI := [{ dst := some 16, op := .load true 6 (.t 2) }, { dst := some 17, op := .call n_syntax_Right [(.t 16)] }, { dst := some 18, op := .move (.t 17) }, { dst := some 19, op := .load true 6 (.t 2), guard := some (18, true) }, { dst := some 20, op := .call n_syntax_Reads [(.t 19)], guard := some (18, true) }, { dst := some 21, op := .buildSlice 1 [(.c (.d (.str ⟨#[116]⟩)))], guard := some (18, true) }, { dst := some 22, op := .call n_affluxref05_Same [(.t 20), (.t 21)], guard := some (18, true) }, { dst := some 23, op := .pick (.t 18) (.t 22) (.c (.d (.bool false))) }]
def x_affluxlaw12_awake_r4s1 : List XI := [{ dst := some 24, op := .move (.t 23) }, { dst := some 25, op := .load true 6 (.t 2), guard := some (24, true) }, { dst := some 26, op := .call n_syntax_Writes [(.t 25)], guard := some (24, true) }, { dst := some 27, op := .buildSlice 1 [(.c (.d (.str ⟨#[116]⟩)))], guard := some (24, true) }, { dst := some 28, op := .call n_affluxref05_Same [(.t 26), (.t 27)], guard := some (24, true) }, { dst := some 29, op := .pick (.t 24) (.t 28) (.c (.d (.bool false))) }]
def x_affluxlaw12_awake_r4s2 : List XI := [{ dst := some 30, op := .move (.t 29) }, { dst := some 31, op := .move (.t 3), guard := some (30, true) }, { dst := some 32, op := .bin .eql (.t 31) (.c (.d (.int .i64 2))), guard := some (30, true) }, { dst := some 33, op := .pick (.t 30) (.t 32) (.c (.d (.bool false))) }]
def x_affluxlaw12_awake_r4s3 : List XI := [{ dst := some 34, op := .move (.t 33) }, { dst := some 35, op := .move (.t 4), guard := some (34, true) }, { dst := some 36, op := .bin .eql (.t 35) (.c (.d (.int .i64 2))), guard := some (34, true) }, { dst := some 37, op := .pick (.t 34) (.t 36) (.c (.d (.bool false))) }]
def x_affluxlaw12_awake_r4s4 : List XI := [{ dst := some 0, op := .move (.t 37) }]
def x_affluxlaw12_awake_r4 : List XI := x_affluxlaw12_awake_r4s0 ++ (x_affluxlaw12_awake_r4s1 ++ (x_affluxlaw12_awake_r4s2 ++ (x_affluxlaw12_awake_r4s3 ++ (x_affluxlaw12_awake_r4s4))))
def x_affluxlaw12_awake : XC :=
 (.seq (.region x_affluxlaw12_awake_r0)
 (.seq (.region x_affluxlaw12_awake_r1)
 (.seq (.region x_affluxlaw12_awake_r2)
 (.seq (.region x_affluxlaw12_awake_r3)
 (.seq (.region x_affluxlaw12_awake_r4)
 .ret)))))
theorem F_affluxlaw12_awake : Fn PR n_affluxlaw12_awake 38 x_affluxlaw12_awake [.tmp 0] := ⟨fun vs w => Try.call6 vs w, Try.f6, _, Try.func6, rfl, rfl, by kernel_rfl, by kernel_rfl⟩

def x_syntax_Reserved_r0 : List XI := [{ dst := some 2, op := .move (.c (.d (.bool false))) }]
def x_syntax_Reserved_r1 : List XI := [{ dst := some 3, op := .call n_syntax_words [] }, { dst := some 4, op := .move (.t 0) }, { dst := some 5, op := .call n_slices_Contains_string_string [(.t 3), (.t 4)] }, { dst := some 2, op := .move (.t 5) }]
def x_syntax_Reserved : XC :=
 (.seq (.region x_syntax_Reserved_r0)
 (.seq (.region x_syntax_Reserved_r1)
 .ret))
theorem F_syntax_Reserved : Fn PR n_syntax_Reserved 6 x_syntax_Reserved [.tmp 2] := ⟨fun vs w => Try.call7 vs w, Try.f7, _, Try.func7, rfl, rfl, by kernel_rfl, by kernel_rfl⟩

def x_affluxref12_Reserved_r0 : List XI := [{ dst := some 2, op := .move (.c (.d (.bool false))) }]
def x_affluxref12_Reserved_r1 : List XI := [{ dst := some 5, op := .buildSlice 1 [(.c (.d (.str ⟨#[97, 110, 100]⟩))), (.c (.d (.str ⟨#[111, 114]⟩))), (.c (.d (.str ⟨#[110, 111, 116]⟩))), (.c (.d (.str ⟨#[116, 114, 117, 101]⟩))), (.c (.d (.str ⟨#[102, 97, 108, 115, 101]⟩))), (.c (.d (.str ⟨#[108, 101, 116]⟩))), (.c (.d (.str ⟨#[115, 101, 116]⟩))), (.c (.d (.str ⟨#[105, 110, 115, 101, 114, 116]⟩))), (.c (.d (.str ⟨#[117, 112, 100, 97, 116, 101]⟩))), (.c (.d (.str ⟨#[100, 101, 108, 101, 116, 101]⟩))), (.c (.d (.str ⟨#[102, 111, 114]⟩))), (.c (.d (.str ⟨#[105, 110]⟩))), (.c (.d (.str ⟨#[119, 104, 101, 114, 101]⟩))), (.c (.d (.str ⟨#[108, 105, 109, 105, 116]⟩))), (.c (.d (.str ⟨#[105, 102]⟩))), (.c (.d (.str ⟨#[101, 108, 115, 101]⟩))), (.c (.d (.str ⟨#[101, 109, 105, 116]⟩))), (.c (.d (.str ⟨#[97, 98, 111, 114, 116]⟩))), (.c (.d (.str ⟨#[114, 101, 112, 108, 121]⟩))), (.c (.d (.str ⟨#[99, 111, 117, 110, 116]⟩))), (.c (.d (.str ⟨#[115, 117, 109]⟩))), (.c (.d (.str ⟨#[109, 105, 110]⟩))), (.c (.d (.str ⟨#[109, 97, 120]⟩))), (.c (.d (.str ⟨#[105, 110, 116]⟩))), (.c (.d (.str ⟨#[116, 101, 120, 116]⟩))), (.c (.d (.str ⟨#[98, 111, 111, 108]⟩))), (.c (.d (.str ⟨#[116, 97, 98, 108, 101]⟩))), (.c (.d (.str ⟨#[115, 116, 114, 101, 97, 109]⟩))), (.c (.d (.str ⟨#[119, 105, 110, 100, 111, 119]⟩))), (.c (.d (.str ⟨#[115, 105, 110, 107]⟩))), (.c (.d (.str ⟨#[112, 114, 111, 99]⟩))), (.c (.d (.str ⟨#[107, 101, 121]⟩))), (.c (.d (.str ⟨#[117, 110, 105, 113, 117, 101]⟩))), (.c (.d (.str ⟨#[105, 110, 100, 101, 120]⟩))), (.c (.d (.str ⟨#[112, 97, 114, 116, 115]⟩))), (.c (.d (.str ⟨#[98, 121]⟩))), (.c (.d (.str ⟨#[111, 110]⟩))), (.c (.d (.str ⟨#[102, 114, 111, 109]⟩))), (.c (.d (.str ⟨#[97, 116]⟩))), (.c (.d (.str ⟨#[102, 117, 101, 108]⟩))), (.c (.d (.str ⟨#[116, 117, 112, 108, 101, 115]⟩))), (.c (.d (.str ⟨#[98, 97, 116, 99, 104, 101, 115]⟩))), (.c (.d (.str ⟨#[115, 108, 105, 100, 101]⟩)))] }, { dst := some 3, op := .move (.t 5) }]
def x_affluxref12_Reserved_r2 : List XI := [{ dst := some 4, op := .move (.c (.d (.int .i64 0))) }]
def x_affluxref12_Reserved_r3 : List XI := [{ dst := some 6, op := .move (.t 4) }, { dst := some 7, op := .move (.t 3) }, { dst := some 8, op := .lenR (.t 7) }, { dst := some 9, op := .bin .lss (.t 6) (.t 8) }]
def x_affluxref12_Reserved_r4 : List XI := [{ dst := some 12, op := .move (.t 3) }, { dst := some 13, op := .move (.t 4) }, { dst := some 14, op := .indexAddr 1 (.t 12) (.t 13) }, { dst := some 15, op := .load false 1 (.t 14) }, { dst := some 16, op := .move (.t 0) }, { dst := some 17, op := .bin .eql (.t 15) (.t 16) }]
def x_affluxref12_Reserved_r5 : List XI := [{ dst := some 2, op := .move (.c (.d (.bool true))) }]
def x_affluxref12_Reserved_r6 : List XI := [{ dst := some 10, op := .move (.t 4) }, { dst := some 11, op := .bin .add (.t 10) (.c (.d (.int .i64 1))) }, { dst := some 4, op := .move (.t 11) }]
def x_affluxref12_Reserved_l7 : XC :=
 (.seq (.seq (.region x_affluxref12_Reserved_r3)
 (.cond (.t 9)
 .skip
 (.exit 0)))
 (.seq (.block 1 (.seq (.region x_affluxref12_Reserved_r4)
 (.cond (.t 17)
 (.seq (.region x_affluxref12_Reserved_r5)
 .ret)
 .skip)))
 (.region x_affluxref12_Reserved_r6)))
def x_affluxref12_Reserved_r8 : List XI := [{ dst := some 2, op := .move (.c (.d (.bool false))) }]
def x_affluxref12_Reserved : XC :=
 (.seq (.region x_affluxref12_Reserved_r0)
 (.seq (.region x_affluxref12_Reserved_r1)
 (.seq (.seq (.region x_affluxref12_Reserved_r2)
 (.block 0 (.loop x_affluxref12_Reserved_l7)))
 (.seq (.region x_affluxref12_Reserved_r8)
 .ret))))
theorem F_affluxref12_Reserved : Fn PR n_affluxref12_Reserved 18 x_affluxref12_Reserved [.tmp 2] := ⟨fun vs w => Try.call8 vs w, Try.f8, _, Try.func8, rfl, rfl, by kernel_rfl, by kernel_rfl⟩

def x_syntax_Free_r0 : List XI := [{ dst := some 2, op := .move (.c (.d (.bool false))) }]
def x_syntax_Free_r1s0 : List XI := [{ dst := some 3, op := .move (.t 0) }, { dst := some 4, op := .call n_schema_Named [(.t 3)] }, { dst := some 5, op := .move (.t 4) }, { dst := some 6, op := .move (.t 0), guard := some (5, true) }, { dst := some 7, op := .call n_slices_ContainsFunc_string_string [(.t 6), (.c (.fn n_syntax_Reserved [] []))], guard := some (5, true) }, { dst := some 8, op := .not (.t 7), guard := some (5, true) }, { dst := some 9, op := .pick (.t 5) (.t 8) (.c (.d (.bool false))) }]
def x_syntax_Free_r1s1 : List XI := [{ dst := some 2, op := .move (.t 9) }]
def x_syntax_Free_r1 : List XI := x_syntax_Free_r1s0 ++ (x_syntax_Free_r1s1)
def x_syntax_Free : XC :=
 (.seq (.region x_syntax_Free_r0)
 (.seq (.region x_syntax_Free_r1)
 .ret))
theorem F_syntax_Free : Fn PR n_syntax_Free 10 x_syntax_Free [.tmp 2] := ⟨fun vs w => Try.call9 vs w, Try.f9, _, Try.func9, rfl, rfl, by kernel_rfl, by kernel_rfl⟩

def x_affluxref12_Free_r0 : List XI := [{ dst := some 2, op := .move (.c (.d (.bool false))) }]
def x_affluxref12_Free_r1s0 : List XI := [{ dst := some 3, op := .move (.t 0) }, { dst := some 4, op := .call n_affluxref03_Named [(.t 3)] }, { dst := some 5, op := .move (.t 4) }, { dst := some 6, op := .move (.t 0), guard := some (5, true) }, { dst := some 7, op := .call n_affluxref12_Reserved [(.t 6)], guard := some (5, true) }, { dst := some 8, op := .not (.t 7), guard := some (5, true) }, { dst := some 9, op := .pick (.t 5) (.t 8) (.c (.d (.bool false))) }]
def x_affluxref12_Free_r1s1 : List XI := [{ dst := some 2, op := .move (.t 9) }]
def x_affluxref12_Free_r1 : List XI := x_affluxref12_Free_r1s0 ++ (x_affluxref12_Free_r1s1)
def x_affluxref12_Free : XC :=
 (.seq (.region x_affluxref12_Free_r0)
 (.seq (.region x_affluxref12_Free_r1)
 .ret))
theorem F_affluxref12_Free : Fn PR n_affluxref12_Free 10 x_affluxref12_Free [.tmp 2] := ⟨fun vs w => Try.call10 vs w, Try.f10, _, Try.func10, rfl, rfl, by kernel_rfl, by kernel_rfl⟩

def x_syntax_Size_r0 : List XI := [{ dst := some 1, op := .box (.t 0) }, { dst := some 2, op := .move (.c (.d (.int .i64 0))) }, { dst := some 3, op := .move (.c (.d (.int .i64 0))) }]
def x_syntax_Size_r1 : List XI := [{ dst := some 5, op := .fieldAddr 5 (.t 1) }, { dst := some 6, op := .load false 1 (.t 5) }, { dst := some 7, op := .call n_syntax_all_api_Stmt [(.t 6), (.c (.d (.int .i64 0))), (.c (.fn n_syntax_sizeStmt [] []))] }, { dst := some 4, op := .alloc [(.d (.int .i64 0)), (.d (.int .i64 0))] }, { dst := none, op := .store 2 (.t 4) (.t 7) }]
def x_syntax_Size_r2 : List XI := [{ dst := some 8, op := .call n_syntax_size_told [(.t 4)] }, { dst := some 9, op := .extract (.t 8) 0 }, { dst := some 10, op := .extract (.t 8) 1 }, { dst := some 2, op := .move (.t 9) }, { dst := some 3, op := .move (.t 10) }]
def x_syntax_Size : XC :=
 (.seq (.region x_syntax_Size_r0)
 (.seq (.region x_syntax_Size_r1)
 (.seq (.region x_syntax_Size_r2)
 .ret)))
theorem F_syntax_Size : Fn PR n_syntax_Size 11 x_syntax_Size [.tmp 2, .tmp 3] := ⟨fun vs w => Try.call12 vs w, Try.f12, _, Try.func12, rfl, rfl, by kernel_rfl, by kernel_rfl⟩

def x_syntax_Reads_r0 : List XI := [{ dst := some 1, op := .box (.t 0) }, { dst := some 2, op := .move (.c (.ex [])) }]
def x_syntax_Reads_r1 : List XI := [{ dst := some 3, op := .load true 6 (.t 1) }, { dst := some 4, op := .call n_syntax_used [(.t 3)] }, { dst := some 5, op := .field false 0 1 (.t 4) }, { dst := some 6, op := .call n_maps_Keys_map_string_bool_string_bool [(.t 5)] }, { dst := some 7, op := .call n_slices_Sorted_string [(.t 6)] }, { dst := some 2, op := .move (.t 7) }]
def x_syntax_Reads : XC :=
 (.seq (.region x_syntax_Reads_r0)
 (.seq (.region x_syntax_Reads_r1)
 .ret))
theorem F_syntax_Reads : Fn PR n_syntax_Reads 8 x_syntax_Reads [.tmp 2] := ⟨fun vs w => Try.call13 vs w, Try.f13, _, Try.func13, rfl, rfl, by kernel_rfl, by kernel_rfl⟩

def x_affluxref05_Same_r0 : List XI := [{ dst := some 4, op := .move (.c (.d (.bool false))) }]
def x_affluxref05_Same_r1 : List XI := [{ dst := some 6, op := .move (.t 0) }, { dst := some 7, op := .lenR (.t 6) }, { dst := some 8, op := .move (.t 1) }, { dst := some 9, op := .lenR (.t 8) }, { dst := some 10, op := .bin .neq (.t 7) (.t 9) }]
def x_affluxref05_Same_r2 : List XI := [{ dst := some 4, op := .move (.c (.d (.bool false))) }]
def x_affluxref05_Same_r3 : List XI := [{ dst := some 5, op := .move (.c (.d (.int .i64 0))) }]
def x_affluxref05_Same_r4 : List XI := [{ dst := some 11, op := .move (.t 5) }, { dst := some 12, op := .move (.t 0) }, { dst := some 13, op := .lenR (.t 12) }, { dst := some 14, op := .bin .lss (.t 11) (.t 13) }]
def x_affluxref05_Same_r5 : List XI := [{ dst := some 17, op := .move (.t 0) }, { dst := some 18, op := .move (.t 5) }, { dst := some 19, op := .indexAddr 1 (.t 17) (.t 18) }, { dst := some 20, op := .load false 1 (.t 19) }, { dst := some 21, op := .move (.t 1) }, { dst := some 22, op := .move (.t 5) }, { dst := some 23, op := .indexAddr 1 (.t 21) (.t 22) }, { dst := some 24, op := .load false 1 (.t 23) }, { dst := some 25, op := .bin .neq (.t 20) (.t 24) }]
def x_affluxref05_Same_r6 : List XI := [{ dst := some 4, op := .move (.c (.d (.bool false))) }]
def x_affluxref05_Same_r7 : List XI := [{ dst := some 15, op := .move (.t 5) }, { dst := some 16, op := .bin .add (.t 15) (.c (.d (.int .i64 1))) }, { dst := some 5, op := .move (.t 16) }]
def x_affluxref05_Same_l8 : XC :=
 (.seq (.seq (.region x_affluxref05_Same_r4)
 (.cond (.t 14)
 .skip
 (.exit 0)))
 (.seq (.block 1 (.seq (.regionS x_affluxref05_Same_r5 0)
 (.cond (.t 25)
 (.seq (.region x_affluxref05_Same_r6)
 .ret)
 .skip)))
 (.region x_affluxref05_Same_r7)))
def x_affluxref05_Same_r9 : List XI := [{ dst := some 4, op := .move (.c (.d (.bool true))) }]
def x_affluxref05_Same : XC :=
 (.seq (.region x_affluxref05_Same_r0)
 (.seq (.seq (.region x_affluxref05_Same_r1)
 (.cond (.t 10)
 (.seq (.region x_affluxref05_Same_r2)
 .ret)
 .skip))
 (.seq (.seq (.region x_affluxref05_Same_r3)
 (.block 0 (.loop x_affluxref05_Same_l8)))
 (.seq (.region x_affluxref05_Same_r9)
 .ret))))
theorem F_affluxref05_Same : Fn PR n_affluxref05_Same 26 x_affluxref05_Same [.tmp 4] := ⟨fun vs w => Try.call14 vs w, Try.f14, _, Try.func14, rfl, rfl, by kernel_rfl, by kernel_rfl⟩

def x_syntax_Right_r0 : List XI := [{ dst := some 1, op := .box (.t 0) }, { dst := some 2, op := .move (.c (.d (.bool false))) }]
def x_syntax_Right_r1 : List XI := [{ dst := some 4, op := .fieldAddr 5 (.t 1) }, { dst := some 5, op := .load false 1 (.t 4) }, { dst := some 6, op := .call n_syntax_all_api_Stmt [(.t 5), (.c (.d (.int .i64 0))), (.c (.fn n_syntax_sizeStmt [] []))] }, { dst := some 3, op := .alloc [(.d (.int .i64 0)), (.d (.int .i64 0))] }, { dst := none, op := .store 2 (.t 3) (.t 6) }]
def x_syntax_Right_r2s0 : List XI := [{ dst := some 7, op := .load true 6 (.t 1) }, { dst := some 8, op := .call n_syntax_heads [(.t 7)] }, { dst := some 9, op := .move (.t 8) }, { dst := some 10, op := .call n_syntax_size_small [(.t 3)], guard := some (9, true) }, { dst := some 11, op := .pick (.t 9) (.t 10) (.c (.d (.bool false))) }]
def x_syntax_Right_r2s1 : List XI := [{ dst := some 12, op := .move (.t 11) }, { dst := some 13, op := .fieldAddr 5 (.t 1), guard := some (12, true) }, { dst := some 14, op := .load false 1 (.t 13), guard := some (12, true) }, { dst := some 15, op := .call n_syntax_blocks [(.t 14)], guard := some (12, true) }, { dst := some 16, op := .pick (.t 12) (.t 15) (.c (.d (.bool false))) }]
def x_syntax_Right_r2s2 : List XI := [{ dst := some 2, op := .move (.t 16) }]
def x_syntax_Right_r2 : List XI := x_syntax_Right_r2s0 ++ (x_syntax_Right_r2s1 ++ (x_syntax_Right_r2s2))
def x_syntax_Right : XC :=
 (.seq (.region x_syntax_Right_r0)
 (.seq (.region x_syntax_Right_r1)
 (.seq (.region x_syntax_Right_r2)
 .ret)))
theorem F_syntax_Right : Fn PR n_syntax_Right 17 x_syntax_Right [.tmp 2] := ⟨fun vs w => Try.call16 vs w, Try.f16, _, Try.func16, rfl, rfl, by kernel_rfl, by kernel_rfl⟩

def x_syntax_Writes_r0 : List XI := [{ dst := some 1, op := .box (.t 0) }, { dst := some 2, op := .move (.c (.ex [])) }]
def x_syntax_Writes_r1 : List XI := [{ dst := some 3, op := .load true 6 (.t 1) }, { dst := some 4, op := .call n_syntax_used [(.t 3)] }, { dst := some 5, op := .field false 1 1 (.t 4) }, { dst := some 6, op := .call n_maps_Keys_map_string_bool_string_bool [(.t 5)] }, { dst := some 7, op := .call n_slices_Sorted_string [(.t 6)] }, { dst := some 2, op := .move (.t 7) }]
def x_syntax_Writes : XC :=
 (.seq (.region x_syntax_Writes_r0)
 (.seq (.region x_syntax_Writes_r1)
 .ret))
theorem F_syntax_Writes : Fn PR n_syntax_Writes 8 x_syntax_Writes [.tmp 2] := ⟨fun vs w => Try.call18 vs w, Try.f18, _, Try.func18, rfl, rfl, by kernel_rfl, by kernel_rfl⟩

def x_slices_Contains_string_string_r0 : List XI := [{ dst := some 4, op := .move (.c (.d (.bool false))) }]
def x_slices_Contains_string_string_r1 : List XI := [{ dst := some 5, op := .move (.t 0) }, { dst := some 6, op := .move (.t 1) }, { dst := some 7, op := .call n_slices_Index_string_string [(.t 5), (.t 6)] }, { dst := some 8, op := .bin .geq (.t 7) (.c (.d (.int .i64 0))) }, { dst := some 4, op := .move (.t 8) }]
def x_slices_Contains_string_string : XC :=
 (.seq (.region x_slices_Contains_string_string_r0)
 (.seq (.region x_slices_Contains_string_string_r1)
 .ret))
theorem F_slices_Contains_string_string : Fn PR n_slices_Contains_string_string 9 x_slices_Contains_string_string [.tmp 4] := ⟨fun vs w => Try.call20 vs w, Try.f20, _, Try.func20, rfl, rfl, by kernel_rfl, by kernel_rfl⟩

def x_syntax_words_r0 : List XI := [{ dst := some 0, op := .move (.c (.ex [])) }]
def x_syntax_words_r1 : List XI := [{ dst := some 1, op := .buildSlice 1 [(.c (.d (.str ⟨#[97, 110, 100]⟩))), (.c (.d (.str ⟨#[111, 114]⟩))), (.c (.d (.str ⟨#[110, 111, 116]⟩))), (.c (.d (.str ⟨#[116, 114, 117, 101]⟩))), (.c (.d (.str ⟨#[102, 97, 108, 115, 101]⟩))), (.c (.d (.str ⟨#[108, 101, 116]⟩))), (.c (.d (.str ⟨#[115, 101, 116]⟩))), (.c (.d (.str ⟨#[105, 110, 115, 101, 114, 116]⟩))), (.c (.d (.str ⟨#[117, 112, 100, 97, 116, 101]⟩))), (.c (.d (.str ⟨#[100, 101, 108, 101, 116, 101]⟩))), (.c (.d (.str ⟨#[102, 111, 114]⟩))), (.c (.d (.str ⟨#[105, 110]⟩))), (.c (.d (.str ⟨#[119, 104, 101, 114, 101]⟩))), (.c (.d (.str ⟨#[108, 105, 109, 105, 116]⟩))), (.c (.d (.str ⟨#[105, 102]⟩))), (.c (.d (.str ⟨#[101, 108, 115, 101]⟩))), (.c (.d (.str ⟨#[101, 109, 105, 116]⟩))), (.c (.d (.str ⟨#[97, 98, 111, 114, 116]⟩))), (.c (.d (.str ⟨#[114, 101, 112, 108, 121]⟩))), (.c (.d (.str ⟨#[99, 111, 117, 110, 116]⟩))), (.c (.d (.str ⟨#[115, 117, 109]⟩))), (.c (.d (.str ⟨#[109, 105, 110]⟩))), (.c (.d (.str ⟨#[109, 97, 120]⟩))), (.c (.d (.str ⟨#[105, 110, 116]⟩))), (.c (.d (.str ⟨#[116, 101, 120, 116]⟩))), (.c (.d (.str ⟨#[98, 111, 111, 108]⟩))), (.c (.d (.str ⟨#[116, 97, 98, 108, 101]⟩))), (.c (.d (.str ⟨#[115, 116, 114, 101, 97, 109]⟩))), (.c (.d (.str ⟨#[119, 105, 110, 100, 111, 119]⟩))), (.c (.d (.str ⟨#[115, 105, 110, 107]⟩))), (.c (.d (.str ⟨#[112, 114, 111, 99]⟩))), (.c (.d (.str ⟨#[107, 101, 121]⟩))), (.c (.d (.str ⟨#[117, 110, 105, 113, 117, 101]⟩))), (.c (.d (.str ⟨#[105, 110, 100, 101, 120]⟩))), (.c (.d (.str ⟨#[112, 97, 114, 116, 115]⟩))), (.c (.d (.str ⟨#[98, 121]⟩))), (.c (.d (.str ⟨#[111, 110]⟩))), (.c (.d (.str ⟨#[102, 114, 111, 109]⟩))), (.c (.d (.str ⟨#[97, 116]⟩))), (.c (.d (.str ⟨#[102, 117, 101, 108]⟩))), (.c (.d (.str ⟨#[116, 117, 112, 108, 101, 115]⟩))), (.c (.d (.str ⟨#[98, 97, 116, 99, 104, 101, 115]⟩))), (.c (.d (.str ⟨#[115, 108, 105, 100, 101]⟩)))] }, { dst := some 0, op := .move (.t 1) }]
def x_syntax_words : XC :=
 (.seq (.region x_syntax_words_r0)
 (.seq (.region x_syntax_words_r1)
 .ret))
theorem F_syntax_words : Fn PR n_syntax_words 2 x_syntax_words [.tmp 0] := ⟨fun vs w => Try.call21 vs w, Try.f21, _, Try.func21, rfl, rfl, by kernel_rfl, by kernel_rfl⟩

def x_schema_Named_r0 : List XI := [{ dst := some 2, op := .move (.c (.d (.bool false))) }]
def x_schema_Named_r1 : List XI := [{ dst := some 5, op := .move (.t 0) }, { dst := some 6, op := .lenR (.t 5) }, { dst := some 7, op := .move (.c (.d (.int .i64 0))) }]
def x_schema_Named_r2 : List XI := [{ dst := some 8, op := .bin .lss (.t 7) (.t 6) }]
def x_schema_Named_r3 : List XI := [{ dst := some 9, op := .indexAddr 1 (.t 5) (.t 7) }, { dst := some 10, op := .load false 1 (.t 9) }, { dst := some 4, op := .move (.t 10) }]
def x_schema_Named_r4 : List XI := [{ dst := some 11, op := .move (.t 4) }, { dst := some 12, op := .call n_schema_named [(.t 11)] }, { dst := some 13, op := .not (.t 12) }]
def x_schema_Named_r5 : List XI := [{ dst := some 2, op := .move (.c (.d (.bool false))) }]
def x_schema_Named_r6 : List XI := [{ dst := some 14, op := .bin .add (.t 7) (.c (.d (.int .i64 1))) }, { dst := some 7, op := .move (.t 14) }]
def x_schema_Named_l7 : XC :=
 (.seq (.region x_schema_Named_r2)
 (.seq (.cond (.t 8)
 .skip
 (.exit 0))
 (.seq (.block 1 (.seq (.region x_schema_Named_r3)
 (.seq (.region x_schema_Named_r4)
 (.cond (.t 13)
 (.seq (.region x_schema_Named_r5)
 .ret)
 .skip))))
 (.region x_schema_Named_r6))))
def x_schema_Named_r8 : List XI := [{ dst := some 2, op := .move (.c (.d (.bool true))) }]
def x_schema_Named : XC :=
 (.seq (.region x_schema_Named_r0)
 (.seq (.seq (.region x_schema_Named_r1)
 (.block 0 (.loop x_schema_Named_l7)))
 (.seq (.region x_schema_Named_r8)
 .ret)))
theorem F_schema_Named : Fn PR n_schema_Named 15 x_schema_Named [.tmp 2] := ⟨fun vs w => Try.call22 vs w, Try.f22, _, Try.func22, rfl, rfl, by kernel_rfl, by kernel_rfl⟩

def x_slices_ContainsFunc_string_string_r0 : List XI := [{ dst := some 4, op := .move (.c (.d (.bool false))) }]
def x_slices_ContainsFunc_string_string_r1 : List XI := [{ dst := some 5, op := .move (.t 0) }, { dst := some 6, op := .move (.t 1) }, { dst := some 7, op := .call n_slices_IndexFunc_string_string [(.t 5), (.t 6)] }, { dst := some 8, op := .bin .geq (.t 7) (.c (.d (.int .i64 0))) }, { dst := some 4, op := .move (.t 8) }]
def x_slices_ContainsFunc_string_string : XC :=
 (.seq (.region x_slices_ContainsFunc_string_string_r0)
 (.seq (.region x_slices_ContainsFunc_string_string_r1)
 .ret))
theorem F_slices_ContainsFunc_string_string : Fn PR n_slices_ContainsFunc_string_string 9 x_slices_ContainsFunc_string_string [.tmp 4] := ⟨fun vs w => Try.call23 vs w, Try.f23, _, Try.func23, rfl, rfl, by kernel_rfl, by kernel_rfl⟩

def x_affluxref03_Named_r0 : List XI := [{ dst := some 2, op := .move (.c (.d (.bool false))) }]
def x_affluxref03_Named_r1 : List XI := [{ dst := some 6, op := .move (.t 0) }, { dst := some 7, op := .lenS (.t 6) }, { dst := some 8, op := .bin .lss (.t 7) (.c (.d (.int .i64 1))) }, { dst := some 9, op := .move (.t 8) }, { dst := some 10, op := .move (.t 0), guard := some (9, false) }, { dst := some 11, op := .lenS (.t 10), guard := some (9, false) }, { dst := some 12, op := .bin .gtr (.t 11) (.c (.d (.int .i64 16))), guard := some (9, false) }, { dst := some 13, op := .pick (.t 9) (.c (.d (.bool true))) (.t 12) }]
def x_affluxref03_Named_r2 : List XI := [{ dst := some 2, op := .move (.c (.d (.bool false))) }]
def x_affluxref03_Named_r3 : List XI := [{ dst := some 3, op := .move (.c (.d (.int .i64 0))) }]
def x_affluxref03_Named_r4 : List XI := [{ dst := some 14, op := .move (.t 3) }, { dst := some 15, op := .move (.t 0) }, { dst := some 16, op := .lenS (.t 15) }, { dst := some 17, op := .bin .lss (.t 14) (.t 16) }]
def x_affluxref03_Named_r5 : List XI := [{ dst := some 20, op := .move (.t 0) }, { dst := some 21, op := .move (.t 3) }, { dst := some 22, op := .indexStr (.t 20) (.t 21) }, { dst := some 4, op := .move (.t 22) }]
def x_affluxref03_Named_r6s0 : List XI := [{ dst := some 23, op := .move (.t 4) }, { dst := some 24, op := .bin .geq (.t 23) (.c (.d (.int .u8 97))) }, { dst := some 25, op := .move (.t 24) }, { dst := some 26, op := .move (.t 4), guard := some (25, true) }, { dst := some 27, op := .bin .leq (.t 26) (.c (.d (.int .u8 122))), guard := some (25, true) }, { dst := some 28, op := .pick (.t 25) (.t 27) (.c (.d (.bool false))) }]
def x_affluxref03_Named_r6s1 : List XI := [{ dst := some 5, op := .move (.t 28) }]
def x_affluxref03_Named_r6 : List XI := x_affluxref03_Named_r6s0 ++ (x_affluxref03_Named_r6s1)
def x_affluxref03_Named_r7 : List XI := [{ dst := some 29, op := .move (.t 5) }, { dst := some 30, op := .not (.t 29) }, { dst := some 31, op := .move (.t 30) }, { dst := some 32, op := .move (.t 3), guard := some (31, true) }, { dst := some 33, op := .bin .eql (.t 32) (.c (.d (.int .i64 0))), guard := some (31, true) }, { dst := some 34, op := .move (.t 33), guard := some (31, true) }, { dst := some 35, op := .move (.t 4), guard := some (34, false) }, { dst := some 36, op := .bin .geq (.t 35) (.c (.d (.int .u8 48))), guard := some (34, false) }, { dst := some 37, op := .move (.t 36), guard := some (34, false) }, { dst := some 38, op := .move (.t 4), guard := some (37, true) }, { dst := some 39, op := .bin .leq (.t 38) (.c (.d (.int .u8 57))), guard := some (37, true) }, { dst := some 40, op := .pick (.t 37) (.t 39) (.c (.d (.bool false))), guard := some (34, false) }, { dst := some 41, op := .not (.t 40), guard := some (34, false) }, { dst := some 42, op := .move (.t 41), guard := some (34, false) }, { dst := some 43, op := .move (.t 4), guard := some (42, true) }, { dst := some 44, op := .bin .neq (.t 43) (.c (.d (.int .u8 95))), guard := some (42, true) }, { dst := some 45, op := .pick (.t 42) (.t 44) (.c (.d (.bool false))), guard := some (34, false) }, { dst := some 46, op := .pick (.t 34) (.c (.d (.bool true))) (.t 45), guard := some (31, true) }, { dst := some 47, op := .pick (.t 31) (.t 46) (.c (.d (.bool false))) }]
def x_affluxref03_Named_r8 : List XI := [{ dst := some 2, op := .move (.c (.d (.bool false))) }]
def x_affluxref03_Named_r9 : List XI := [{ dst := some 18, op := .move (.t 3) }, { dst := some 19, op := .bin .add (.t 18) (.c (.d (.int .i64 1))) }, { dst := some 3, op := .move (.t 19) }]
def x_affluxref03_Named_l10 : XC :=
 (.seq (.seq (.region x_affluxref03_Named_r4)
 (.cond (.t 17)
 .skip
 (.exit 0)))
 (.seq (.block 1 (.seq (.region x_affluxref03_Named_r5)
 (.seq (.region x_affluxref03_Named_r6)
 (.seq (.region x_affluxref03_Named_r7)
 (.cond (.t 47)
 (.seq (.region x_affluxref03_Named_r8)
 .ret)
 .skip)))))
 (.region x_affluxref03_Named_r9)))
def x_affluxref03_Named_r11 : List XI := [{ dst := some 2, op := .move (.c (.d (.bool true))) }]
def x_affluxref03_Named : XC :=
 (.seq (.region x_affluxref03_Named_r0)
 (.seq (.seq (.region x_affluxref03_Named_r1)
 (.cond (.t 13)
 (.seq (.region x_affluxref03_Named_r2)
 .ret)
 .skip))
 (.seq (.seq (.region x_affluxref03_Named_r3)
 (.block 0 (.loop x_affluxref03_Named_l10)))
 (.seq (.region x_affluxref03_Named_r11)
 .ret))))
theorem F_affluxref03_Named : Fn PR n_affluxref03_Named 48 x_affluxref03_Named [.tmp 2] := ⟨fun vs w => Try.call24 vs w, Try.f24, _, Try.func24, rfl, rfl, by kernel_rfl, by kernel_rfl⟩

def x_syntax_all_api_Stmt_r0 : List XI := [{ dst := some 6, op := .alloc [(.d (.int .i64 0)), (.d (.int .i64 0))] }]
def x_syntax_all_api_Stmt_r1 : List XI := [{ dst := some 7, op := .alloc [(.d (.int .i64 0)), (.d (.int .i64 0))] }]
def x_syntax_all_api_Stmt_r2 : List XI := [{ dst := some 10, op := .move (.t 0) }, { dst := some 11, op := .lenR (.t 10) }, { dst := some 12, op := .move (.c (.d (.int .i64 0))) }]
def x_syntax_all_api_Stmt_r3 : List XI := [{ dst := some 13, op := .bin .lss (.t 12) (.t 11) }]
def x_syntax_all_api_Stmt_r4 : List XI := [{ dst := some 14, op := .indexAddr 8 (.t 10) (.t 12) }, { dst := some 15, op := .load true 8 (.t 14) }, { dst := some 9, op := .alloc [(.d (.int .i64 0)), (.d (.str ⟨#[]⟩)), (.d (.str ⟨#[]⟩)), (.d (.int .i64 0)), (.ex []), (.ex []), (.ex []), (.ex [])] }, { dst := none, op := .store 8 (.t 9) (.t 15) }]
def x_syntax_all_api_Stmt_r5 : List XI := [{ dst := some 16, op := .call n_syntax_size_full [(.t 7)] }, { dst := some 17, op := .move (.t 16) }, { dst := some 18, op := .move (.t 1), guard := some (17, false) }, { dst := some 19, op := .bin .geq (.t 18) (.c (.d (.int .i64 1000))), guard := some (17, false) }, { dst := some 20, op := .pick (.t 17) (.c (.d (.bool true))) (.t 19) }]
def x_syntax_all_api_Stmt_r6 : List XI := [{ dst := some 21, op := .build [(.d (.int .i64 0)), (.d (.int .i64 0))] [(0, 1, (.c (.d (.int .i64 1000)))), (1, 1, (.c (.d (.int .i64 1000))))] }, { dst := none, op := .store 2 (.t 6) (.t 21) }]
def x_syntax_all_api_Stmt_r7 : List XI := [{ dst := some 22, op := .move (.t 2) }, { dst := some 23, op := .load true 8 (.t 9) }, { dst := some 24, op := .move (.t 1) }, { dst := some 25, op := .dyn (.t 22) [(.t 23), (.t 24)] }, { dst := some 26, op := .call n_syntax_size_add [(.t 7), (.t 25)] }]
def x_syntax_all_api_Stmt_r8 : List XI := [{ dst := some 27, op := .bin .add (.t 12) (.c (.d (.int .i64 1))) }, { dst := some 12, op := .move (.t 27) }]
def x_syntax_all_api_Stmt_l9 : XC :=
 (.seq (.region x_syntax_all_api_Stmt_r3)
 (.seq (.cond (.t 13)
 .skip
 (.exit 0))
 (.seq (.block 1 (.seq (.region x_syntax_all_api_Stmt_r4)
 (.seq (.seq (.region x_syntax_all_api_Stmt_r5)
 (.cond (.t 20)
 (.seq (.region x_syntax_all_api_Stmt_r6)
 .ret)
 .skip))
 (.region x_syntax_all_api_Stmt_r7))))
 (.region x_syntax_all_api_Stmt_r8))))
def x_syntax_all_api_Stmt_r10 : List XI := [{ dst := some 28, op := .load true 2 (.t 7) }, { dst := none, op := .store 2 (.t 6) (.t 28) }]
def x_syntax_all_api_Stmt : XC :=
 (.seq (.region x_syntax_all_api_Stmt_r0)
 (.seq (.region x_syntax_all_api_Stmt_r1)
 (.seq (.seq (.region x_syntax_all_api_Stmt_r2)
 (.block 0 (.loop x_syntax_all_api_Stmt_l9)))
 (.seq (.region x_syntax_all_api_Stmt_r10)
 .ret))))
theorem F_syntax_all_api_Stmt : Fn PR n_syntax_all_api_Stmt 29 x_syntax_all_api_Stmt [.cell 6 true 2] := ⟨fun vs w => Try.call30 vs w, Try.f30, _, Try.func30, rfl, rfl, by kernel_rfl, by kernel_rfl⟩

def x_syntax_sizeStmt_r0 : List XI := [{ dst := some 2, op := .box (.t 0) }, { dst := some 4, op := .alloc [(.d (.int .i64 0)), (.d (.int .i64 0))] }]
def x_syntax_sizeStmt_r1 : List XI := [{ dst := some 6, op := .fieldAddr 5 (.t 2) }, { dst := some 7, op := .load false 1 (.t 6) }, { dst := some 8, op := .move (.t 1) }, { dst := some 9, op := .bin .add (.t 8) (.c (.d (.int .i64 1))) }, { dst := some 10, op := .call n_syntax_all_api_Expr [(.t 7), (.t 9), (.c (.fn n_syntax_sizeExpr [] []))] }, { dst := some 5, op := .alloc [(.d (.int .i64 0)), (.d (.int .i64 0))] }, { dst := none, op := .store 2 (.t 5) (.t 10) }]
def x_syntax_sizeStmt_r2 : List XI := [{ dst := some 11, op := .fieldAddr 6 (.t 2) }, { dst := some 12, op := .load false 1 (.t 11) }, { dst := some 13, op := .move (.t 1) }, { dst := some 14, op := .bin .add (.t 13) (.c (.d (.int .i64 1))) }, { dst := some 15, op := .call n_syntax_all_api_Stmt [(.t 12), (.t 14), (.c (.fn n_syntax_sizeStmt [] []))] }, { dst := some 16, op := .call n_syntax_size_add [(.t 5), (.t 15)] }]
def x_syntax_sizeStmt_r3 : List XI := [{ dst := some 17, op := .fieldAddr 7 (.t 2) }, { dst := some 18, op := .load false 1 (.t 17) }, { dst := some 19, op := .move (.t 1) }, { dst := some 20, op := .bin .add (.t 19) (.c (.d (.int .i64 1))) }, { dst := some 21, op := .call n_syntax_all_api_Stmt [(.t 18), (.t 20), (.c (.fn n_syntax_sizeStmt [] []))] }, { dst := some 22, op := .call n_syntax_size_add [(.t 5), (.t 21)] }]
def x_syntax_sizeStmt_r4 : List XI := [{ dst := some 23, op := .load true 2 (.t 5) }, { dst := some 24, op := .call n_syntax_over [(.t 23)] }, { dst := none, op := .store 2 (.t 4) (.t 24) }]
def x_syntax_sizeStmt : XC :=
 (.seq (.region x_syntax_sizeStmt_r0)
 (.seq (.region x_syntax_sizeStmt_r1)
 (.seq (.region x_syntax_sizeStmt_r2)
 (.seq (.region x_syntax_sizeStmt_r3)
 (.seq (.region x_syntax_sizeStmt_r4)
 .ret)))))
theorem F_syntax_sizeStmt : Fn PR n_syntax_sizeStmt 25 x_syntax_sizeStmt [.cell 4 true 2] := ⟨fun vs w => Try.call31 vs w, Try.f31, _, Try.func31, rfl, rfl, by kernel_rfl, by kernel_rfl⟩

def x_syntax_size_told_r0 : List XI := [{ dst := some 2, op := .move (.c (.d (.int .i64 0))) }, { dst := some 3, op := .move (.c (.d (.int .i64 0))) }]
def x_syntax_size_told_r1 : List XI := [{ dst := some 4, op := .move (.t 0) }, { dst := some 5, op := .call n_syntax_size_full [(.t 4)] }]
def x_syntax_size_told_r2 : List XI := [{ dst := some 2, op := .move (.c (.d (.int .i64 1000))) }, { dst := some 3, op := .move (.c (.d (.int .i64 1000))) }]
def x_syntax_size_told_r3 : List XI := [{ dst := some 6, op := .move (.t 0) }, { dst := some 7, op := .nilCheck (.t 6) }, { dst := some 8, op := .fieldAddr 0 (.t 7) }, { dst := some 9, op := .load false 1 (.t 8) }, { dst := some 10, op := .move (.t 0) }, { dst := some 11, op := .nilCheck (.t 10) }, { dst := some 12, op := .fieldAddr 1 (.t 11) }, { dst := some 13, op := .load false 1 (.t 12) }, { dst := some 2, op := .move (.t 9) }, { dst := some 3, op := .move (.t 13) }]
def x_syntax_size_told : XC :=
 (.seq (.region x_syntax_size_told_r0)
 (.seq (.seq (.region x_syntax_size_told_r1)
 (.cond (.t 5)
 (.seq (.region x_syntax_size_told_r2)
 .ret)
 .skip))
 (.seq (.regionS x_syntax_size_told_r3 0)
 .ret)))
theorem F_syntax_size_told : Fn PR n_syntax_size_told 14 x_syntax_size_told [.tmp 2, .tmp 3] := ⟨fun vs w => Try.call32 vs w, Try.f32, _, Try.func32, rfl, rfl, by kernel_rfl, by kernel_rfl⟩

def x_maps_Keys_map_string_bool_string_bool_r0 : List XI := [{ dst := some 1, op := .box (.t 0) }, { dst := some 2, op := .move (.c .nilf) }]
def x_maps_Keys_map_string_bool_string_bool_r1 : List XI := [{ dst := some 3, op := .mkfn n_maps_Keys_map_string_bool_string_bool_1 [] [(.t 1)] }, { dst := some 2, op := .move (.t 3) }]
def x_maps_Keys_map_string_bool_string_bool : XC :=
 (.seq (.region x_maps_Keys_map_string_bool_string_bool_r0)
 (.seq (.region x_maps_Keys_map_string_bool_string_bool_r1)
 .ret))
theorem F_maps_Keys_map_string_bool_string_bool : Fn PR n_maps_Keys_map_string_bool_string_bool 4 x_maps_Keys_map_string_bool_string_bool [.tmp 2] := ⟨fun vs w => Try.call34 vs w, Try.f34, _, Try.func34, rfl, rfl, by kernel_rfl, by kernel_rfl⟩

def x_syntax_used_r0 : List XI := [{ dst := some 1, op := .box (.t 0) }, { dst := some 2, op := .alloc [.nilm, .nilm, .nilm] }]
def x_syntax_used_r1 : List XI := [{ dst := some 6, op := .mkMap ty_string ty_bool }, { dst := some 7, op := .mkMap ty_string ty_bool }, { dst := some 8, op := .mkMap ty_string ty_bool }, { dst := some 9, op := .build [.nilm, .nilm, .nilm] [(0, 1, (.t 6)), (1, 1, (.t 7)), (2, 1, (.t 8))] }, { dst := some 3, op := .alloc [.nilm, .nilm, .nilm] }, { dst := none, op := .store 3 (.t 3) (.t 9) }]
def x_syntax_used_r2 : List XI := [{ dst := some 10, op := .load true 6 (.t 1) }, { dst := some 11, op := .call n_syntax_Right [(.t 10)] }]
def x_syntax_used_r3 : List XI := [{ dst := some 12, op := .fieldAddr 5 (.t 1) }, { dst := some 13, op := .load false 1 (.t 12) }, { dst := some 14, op := .lenR (.t 13) }, { dst := some 15, op := .move (.c (.d (.int .i64 0))) }]
def x_syntax_used_r4 : List XI := [{ dst := some 16, op := .bin .lss (.t 15) (.t 14) }]
def x_syntax_used_r5 : List XI := [{ dst := some 17, op := .indexAddr 8 (.t 13) (.t 15) }, { dst := some 18, op := .load true 8 (.t 17) }, { dst := some 5, op := .alloc [(.d (.int .i64 0)), (.d (.str ⟨#[]⟩)), (.d (.str ⟨#[]⟩)), (.d (.int .i64 0)), (.ex []), (.ex []), (.ex []), (.ex [])] }, { dst := none, op := .store 8 (.t 5) (.t 18) }]
def x_syntax_used_r6 : List XI := [{ dst := some 19, op := .load true 3 (.t 3) }, { dst := some 20, op := .load true 8 (.t 5) }, { dst := some 21, op := .call n_syntax_uses_stmt [(.t 19), (.t 20)] }]
def x_syntax_used_r7 : List XI := [{ dst := some 22, op := .bin .add (.t 15) (.c (.d (.int .i64 1))) }, { dst := some 15, op := .move (.t 22) }]
def x_syntax_used_l8 : XC :=
 (.seq (.region x_syntax_used_r4)
 (.seq (.cond (.t 16)
 .skip
 (.exit 0))
 (.seq (.block 1 (.seq (.region x_syntax_used_r5)
 (.region x_syntax_used_r6)))
 (.region x_syntax_used_r7))))
def x_syntax_used_r9 : List XI := [{ dst := some 23, op := .load true 3 (.t 3) }, { dst := none, op := .store 3 (.t 2) (.t 23) }]
def x_syntax_used : XC :=
 (.seq (.region x_syntax_used_r0)
 (.seq (.region x_syntax_used_r1)
 (.seq (.seq (.region x_syntax_used_r2)
 (.cond (.t 11)
 (.seq (.region x_syntax_used_r3)
 (.block 0 (.loop x_syntax_used_l8)))
 .skip))
 (.seq (.region x_syntax_used_r9)
 .ret))))
theorem F_syntax_used : Fn PR n_syntax_used 24 x_syntax_used [.cell 2 true 3] := ⟨fun vs w => Try.call35 vs w, Try.f35, _, Try.func35, rfl, rfl, by kernel_rfl, by kernel_rfl⟩

def x_syntax_heads_r0 : List XI := [{ dst := some 1, op := .box (.t 0) }, { dst := some 2, op := .move (.c (.d (.bool false))) }]
def x_syntax_heads_r1 : List XI := [{ dst := some 3, op := .move (.c (.ex [])) }]
def x_syntax_heads_r2 : List XI := [{ dst := some 6, op := .fieldAddr 4 (.t 1) }, { dst := some 7, op := .load false 1 (.t 6) }, { dst := some 8, op := .lenR (.t 7) }, { dst := some 9, op := .move (.c (.d (.int .i64 0))) }]
def x_syntax_heads_r3 : List XI := [{ dst := some 10, op := .bin .lss (.t 9) (.t 8) }]
def x_syntax_heads_r4 : List XI := [{ dst := some 11, op := .indexAddr 2 (.t 7) (.t 9) }, { dst := some 12, op := .load true 2 (.t 11) }, { dst := some 5, op := .alloc [(.d (.str ⟨#[]⟩)), (.d (.int .i64 0))] }, { dst := none, op := .store 2 (.t 5) (.t 12) }]
def x_syntax_heads_r5 : List XI := [{ dst := some 13, op := .fieldAddr 1 (.t 5) }, { dst := some 14, op := .load false 1 (.t 13) }, { dst := some 15, op := .call n_syntax_within [(.t 14), (.c (.d (.int .i64 1))), (.c (.d (.int .i64 3)))] }, { dst := some 16, op := .not (.t 15) }]
def x_syntax_heads_r6 : List XI := [{ dst := some 2, op := .move (.c (.d (.bool false))) }]
def x_syntax_heads_r7 : List XI := [{ dst := some 17, op := .move (.t 3) }, { dst := some 18, op := .fieldAddr 0 (.t 5) }, { dst := some 19, op := .load false 1 (.t 18) }, { dst := some 20, op := .buildSlice 1 [(.t 19)] }, { dst := some 21, op := .append ty_string 1 16 (.t 17) (.t 20) }, { dst := some 3, op := .move (.t 21) }]
def x_syntax_heads_r8 : List XI := [{ dst := some 22, op := .bin .add (.t 9) (.c (.d (.int .i64 1))) }, { dst := some 9, op := .move (.t 22) }]
def x_syntax_heads_l9 : XC :=
 (.seq (.region x_syntax_heads_r3)
 (.seq (.cond (.t 10)
 .skip
 (.exit 0))
 (.seq (.block 1 (.seq (.region x_syntax_heads_r4)
 (.seq (.seq (.region x_syntax_heads_r5)
 (.cond (.t 16)
 (.seq (.region x_syntax_heads_r6)
 .ret)
 .skip))
 (.region x_syntax_heads_r7))))
 (.region x_syntax_heads_r8))))
def x_syntax_heads_r10s0 : List XI := [{ dst := some 23, op := .fieldAddr 0 (.t 1) }, { dst := some 24, op := .load false 1 (.t 23) }, { dst := some 25, op := .buildSlice 1 [(.t 24)] }, { dst := some 26, op := .call n_syntax_Free [(.t 25)] }, { dst := some 27, op := .not (.t 26) }, { dst := some 28, op := .move (.t 27) }, { dst := some 29, op := .move (.t 3), guard := some (28, false) }, { dst := some 30, op := .lenR (.t 29), guard := some (28, false) }, { dst := some 31, op := .bin .gtr (.t 30) (.c (.d (.int .i64 8))), guard := some (28, false) }, { dst := some 32, op := .pick (.t 28) (.c (.d (.bool true))) (.t 31) }]
def x_syntax_heads_r10s1 : List XI := [{ dst := some 33, op := .move (.t 32) }, { dst := some 34, op := .move (.t 3), guard := some (33, false) }, { dst := some 35, op := .call n_syntax_Free [(.t 34)], guard := some (33, false) }, { dst := some 36, op := .not (.t 35), guard := some (33, false) }, { dst := some 37, op := .pick (.t 33) (.c (.d (.bool true))) (.t 36) }]
def x_syntax_heads_r10s2 : List XI := [{ dst := some 38, op := .move (.t 37) }, { dst := some 39, op := .move (.t 3), guard := some (38, false) }, { dst := some 40, op := .call n_syntax_unlike [(.t 39)], guard := some (38, false) }, { dst := some 41, op := .not (.t 40), guard := some (38, false) }, { dst := some 42, op := .pick (.t 38) (.c (.d (.bool true))) (.t 41) }]
def x_syntax_heads_r10s3 : List XI := [{ dst := some 43, op := .move (.t 42) }, { dst := some 44, op := .fieldAddr 3 (.t 1), guard := some (43, false) }, { dst := some 45, op := .load false 1 (.t 44), guard := some (43, false) }, { dst := some 46, op := .call n_syntax_within [(.t 45), (.c (.d (.int .i64 1))), (.c (.d (.int .i64 2000)))], guard := some (43, false) }, { dst := some 47, op := .not (.t 46), guard := some (43, false) }, { dst := some 48, op := .pick (.t 43) (.c (.d (.bool true))) (.t 47) }]
def x_syntax_heads_r10 : List XI := x_syntax_heads_r10s0 ++ (x_syntax_heads_r10s1 ++ (x_syntax_heads_r10s2 ++ (x_syntax_heads_r10s3)))
def x_syntax_heads_r11 : List XI := [{ dst := some 2, op := .move (.c (.d (.bool false))) }]
def x_syntax_heads_r12 : List XI := [{ dst := some 49, op := .fieldAddr 1 (.t 1) }, { dst := some 50, op := .load false 1 (.t 49) }, { dst := some 51, op := .bin .neq (.t 50) (.c (.d (.str ⟨#[]⟩))) }]
def x_syntax_heads_r13s0 : List XI := [{ dst := some 52, op := .fieldAddr 1 (.t 1) }, { dst := some 53, op := .load false 1 (.t 52) }, { dst := some 54, op := .buildSlice 1 [(.t 53)] }, { dst := some 55, op := .call n_syntax_Free [(.t 54)] }, { dst := some 56, op := .move (.t 55) }, { dst := some 57, op := .move (.t 3), guard := some (56, true) }, { dst := some 58, op := .lenR (.t 57), guard := some (56, true) }, { dst := some 59, op := .bin .eql (.t 58) (.c (.d (.int .i64 0))), guard := some (56, true) }, { dst := some 60, op := .pick (.t 56) (.t 59) (.c (.d (.bool false))) }]
def x_syntax_heads_r13s1 : List XI := [{ dst := some 61, op := .move (.t 60) }, { dst := some 62, op := .fieldAddr 2 (.t 1), guard := some (61, true) }, { dst := some 63, op := .load false 1 (.t 62), guard := some (61, true) }, { dst := some 64, op := .bin .eql (.t 63) (.c (.d (.str ⟨#[]⟩))), guard := some (61, true) }, { dst := some 65, op := .pick (.t 61) (.t 64) (.c (.d (.bool false))) }]
def x_syntax_heads_r13s2 : List XI := [{ dst := some 2, op := .move (.t 65) }]
def x_syntax_heads_r13 : List XI := x_syntax_heads_r13s0 ++ (x_syntax_heads_r13s1 ++ (x_syntax_heads_r13s2))
def x_syntax_heads_r14s0 : List XI := [{ dst := some 66, op := .fieldAddr 2 (.t 1) }, { dst := some 67, op := .load false 1 (.t 66) }, { dst := some 68, op := .bin .eql (.t 67) (.c (.d (.str ⟨#[]⟩))) }, { dst := some 69, op := .move (.t 68) }, { dst := some 70, op := .move (.t 3), guard := some (69, false) }, { dst := some 71, op := .fieldAddr 2 (.t 1), guard := some (69, false) }, { dst := some 72, op := .load false 1 (.t 71), guard := some (69, false) }, { dst := some 73, op := .call n_slices_Contains_string_string [(.t 70), (.t 72)], guard := some (69, false) }, { dst := some 74, op := .pick (.t 69) (.c (.d (.bool true))) (.t 73) }]
def x_syntax_heads_r14s1 : List XI := [{ dst := some 2, op := .move (.t 74) }]
def x_syntax_heads_r14 : List XI := x_syntax_heads_r14s0 ++ (x_syntax_heads_r14s1)
def x_syntax_heads : XC :=
 (.seq (.region x_syntax_heads_r0)
 (.seq (.region x_syntax_heads_r1)
 (.seq (.seq (.region x_syntax_heads_r2)
 (.block 0 (.loop x_syntax_heads_l9)))
 (.seq (.seq (.region x_syntax_heads_r10)
 (.cond (.t 48)
 (.seq (.region x_syntax_heads_r11)
 .ret)
 .skip))
 (.seq (.seq (.region x_syntax_heads_r12)
 (.cond (.t 51)
 (.seq (.region x_syntax_heads_r13)
 .ret)
 .skip))
 (.seq (.region x_syntax_heads_r14)
 .ret))))))
theorem F_syntax_heads : Fn PR n_syntax_heads 75 x_syntax_heads [.tmp 2] := ⟨fun vs w => Try.call36 vs w, Try.f36, _, Try.func36, rfl, rfl, by kernel_rfl, by kernel_rfl⟩

def x_syntax_size_small_r0 : List XI := [{ dst := some 2, op := .move (.c (.d (.bool false))) }]
def x_syntax_size_small_r1s0 : List XI := [{ dst := some 3, op := .move (.t 0) }, { dst := some 4, op := .nilCheck (.t 3) }, { dst := some 5, op := .fieldAddr 0 (.t 4) }, { dst := some 6, op := .load false 1 (.t 5) }, { dst := some 7, op := .bin .leq (.t 6) (.c (.d (.int .i64 300))) }, { dst := some 8, op := .move (.t 7) }, { dst := some 9, op := .move (.t 0), guard := some (8, true) }, { dst := some 10, op := .nilCheck (.t 9), guard := some (8, true) }, { dst := some 11, op := .fieldAddr 1 (.t 10), guard := some (8, true) }, { dst := some 12, op := .load false 1 (.t 11), guard := some (8, true) }, { dst := some 13, op := .bin .leq (.t 12) (.c (.d (.int .i64 12))), guard := some (8, true) }, { dst := some 14, op := .pick (.t 8) (.t 13) (.c (.d (.bool false))) }]
def x_syntax_size_small_r1s1 : List XI := [{ dst := some 2, op := .move (.t 14) }]
def x_syntax_size_small_r1 : List XI := x_syntax_size_small_r1s0 ++ (x_syntax_size_small_r1s1)
def x_syntax_size_small : XC :=
 (.seq (.region x_syntax_size_small_r0)
 (.seq (.region x_syntax_size_small_r1)
 .ret))
theorem F_syntax_size_small : Fn PR n_syntax_size_small 15 x_syntax_size_small [.tmp 2] := ⟨fun vs w => Try.call37 vs w, Try.f37, _, Try.func37, rfl, rfl, by kernel_rfl, by kernel_rfl⟩

def x_syntax_blocks_r0 : List XI := [{ dst := some 2, op := .move (.c (.d (.bool false))) }]
def x_syntax_blocks_r1 : List XI := [{ dst := some 3, op := .move (.t 0) }, { dst := some 4, op := .call n_slices_ContainsFunc_api_Stmt_api_Stmt [(.t 3), (.c (.fn n_syntax_blocks_1 [] []))] }, { dst := some 5, op := .not (.t 4) }, { dst := some 2, op := .move (.t 5) }]
def x_syntax_blocks : XC :=
 (.seq (.region x_syntax_blocks_r0)
 (.seq (.region x_syntax_blocks_r1)
 .ret))
theorem F_syntax_blocks : Fn PR n_syntax_blocks 6 x_syntax_blocks [.tmp 2] := ⟨fun vs w => Try.call38 vs w, Try.f38, _, Try.func38, rfl, rfl, by kernel_rfl, by kernel_rfl⟩

def x_slices_Index_string_string_r0 : List XI := [{ dst := some 4, op := .move (.c (.d (.int .i64 0))) }]
def x_slices_Index_string_string_r1 : List XI := [{ dst := some 6, op := .move (.t 0) }, { dst := some 7, op := .lenR (.t 6) }, { dst := some 8, op := .move (.c (.d (.int .i64 0))) }]
def x_slices_Index_string_string_r2 : List XI := [{ dst := some 9, op := .bin .lss (.t 8) (.t 7) }]
def x_slices_Index_string_string_r3 : List XI := [{ dst := some 10, op := .move (.t 8) }, { dst := some 5, op := .move (.t 10) }]
def x_slices_Index_string_string_r4 : List XI := [{ dst := some 11, op := .move (.t 1) }, { dst := some 12, op := .move (.t 0) }, { dst := some 13, op := .move (.t 5) }, { dst := some 14, op := .indexAddr 1 (.t 12) (.t 13) }, { dst := some 15, op := .load false 1 (.t 14) }, { dst := some 16, op := .bin .eql (.t 11) (.t 15) }]
def x_slices_Index_string_string_r5 : List XI := [{ dst := some 17, op := .move (.t 5) }, { dst := some 4, op := .move (.t 17) }]
def x_slices_Index_string_string_r6 : List XI := [{ dst := some 18, op := .bin .add (.t 8) (.c (.d (.int .i64 1))) }, { dst := some 8, op := .move (.t 18) }]
def x_slices_Index_string_string_l7 : XC :=
 (.seq (.region x_slices_Index_string_string_r2)
 (.seq (.cond (.t 9)
 .skip
 (.exit 0))
 (.seq (.block 1 (.seq (.region x_slices_Index_string_string_r3)
 (.seq (.region x_slices_Index_string_string_r4)
 (.cond (.t 16)
 (.seq (.region x_slices_Index_string_string_r5)
 .ret)
 .skip))))
 (.region x_slices_Index_string_string_r6))))
def x_slices_Index_string_string_r8 : List XI := [{ dst := some 4, op := .move (.c (.d (.int .i64 (-1)))) }]
def x_slices_Index_string_string : XC :=
 (.seq (.region x_slices_Index_string_string_r0)
 (.seq (.seq (.region x_slices_Index_string_string_r1)
 (.block 0 (.loop x_slices_Index_string_string_l7)))
 (.seq (.region x_slices_Index_string_string_r8)
 .ret)))
theorem F_slices_Index_string_string : Fn PR n_slices_Index_string_string 19 x_slices_Index_string_string [.tmp 4] := ⟨fun vs w => Try.call40 vs w, Try.f40, _, Try.func40, rfl, rfl, by kernel_rfl, by kernel_rfl⟩

def x_schema_named_r0 : List XI := [{ dst := some 2, op := .move (.c (.d (.bool false))) }]
def x_schema_named_r1s0 : List XI := [{ dst := some 5, op := .move (.t 0) }, { dst := some 6, op := .bin .eql (.t 5) (.c (.d (.str ⟨#[]⟩))) }, { dst := some 7, op := .move (.t 6) }, { dst := some 8, op := .move (.t 0), guard := some (7, false) }, { dst := some 9, op := .lenS (.t 8), guard := some (7, false) }, { dst := some 10, op := .bin .gtr (.t 9) (.c (.d (.int .i64 16))), guard := some (7, false) }, { dst := some 11, op := .pick (.t 7) (.c (.d (.bool true))) (.t 10) }]
def x_schema_named_r1s1 : List XI := [{ dst := some 12, op := .move (.t 11) }, { dst := some 13, op := .move (.t 0), guard := some (12, false) }, { dst := some 14, op := .indexStr (.t 13) (.c (.d (.int .i64 0))), guard := some (12, false) }, { dst := some 15, op := .call n_schema_letter [(.t 14)], guard := some (12, false) }, { dst := some 16, op := .not (.t 15), guard := some (12, false) }, { dst := some 17, op := .pick (.t 12) (.c (.d (.bool true))) (.t 16) }]
def x_schema_named_r1 : List XI := x_schema_named_r1s0 ++ (x_schema_named_r1s1)
def x_schema_named_r2 : List XI := [{ dst := some 2, op := .move (.c (.d (.bool false))) }]
def x_schema_named_r3 : List XI := [{ dst := some 18, op := .move (.t 0) }, { dst := some 19, op := .toBytes (.t 18) }, { dst := some 20, op := .lenR (.t 19) }, { dst := some 21, op := .move (.c (.d (.int .i64 0))) }]
def x_schema_named_r4 : List XI := [{ dst := some 22, op := .bin .lss (.t 21) (.t 20) }]
def x_schema_named_r5 : List XI := [{ dst := some 23, op := .indexAddr 1 (.t 19) (.t 21) }, { dst := some 24, op := .load false 1 (.t 23) }, { dst := some 4, op := .move (.t 24) }]
def x_schema_named_r6 : List XI := [{ dst := some 25, op := .move (.t 4) }, { dst := some 26, op := .call n_schema_part [(.t 25)] }, { dst := some 27, op := .not (.t 26) }]
def x_schema_named_r7 : List XI := [{ dst := some 2, op := .move (.c (.d (.bool false))) }]
def x_schema_named_r8 : List XI := [{ dst := some 28, op := .bin .add (.t 21) (.c (.d (.int .i64 1))) }, { dst := some 21, op := .move (.t 28) }]
def x_schema_named_l9 : XC :=
 (.seq (.region x_schema_named_r4)
 (.seq (.cond (.t 22)
 .skip
 (.exit 0))
 (.seq (.block 1 (.seq (.region x_schema_named_r5)
 (.seq (.region x_schema_named_r6)
 (.cond (.t 27)
 (.seq (.region x_schema_named_r7)
 .ret)
 .skip))))
 (.region x_schema_named_r8))))
def x_schema_named_r10 : List XI := [{ dst := some 2, op := .move (.c (.d (.bool true))) }]
def x_schema_named : XC :=
 (.seq (.region x_schema_named_r0)
 (.seq (.seq (.region x_schema_named_r1)
 (.cond (.t 17)
 (.seq (.region x_schema_named_r2)
 .ret)
 .skip))
 (.seq (.seq (.region x_schema_named_r3)
 (.block 0 (.loop x_schema_named_l9)))
 (.seq (.region x_schema_named_r10)
 .ret))))
theorem F_schema_named : Fn PR n_schema_named 29 x_schema_named [.tmp 2] := ⟨fun vs w => Try.call41 vs w, Try.f41, _, Try.func41, rfl, rfl, by kernel_rfl, by kernel_rfl⟩

def x_slices_IndexFunc_string_string_r0 : List XI := [{ dst := some 4, op := .move (.c (.d (.int .i64 0))) }]
def x_slices_IndexFunc_string_string_r1 : List XI := [{ dst := some 6, op := .move (.t 0) }, { dst := some 7, op := .lenR (.t 6) }, { dst := some 8, op := .move (.c (.d (.int .i64 0))) }]
def x_slices_IndexFunc_string_string_r2 : List XI := [{ dst := some 9, op := .bin .lss (.t 8) (.t 7) }]
def x_slices_IndexFunc_string_string_r3 : List XI := [{ dst := some 10, op := .move (.t 8) }, { dst := some 5, op := .move (.t 10) }]
def x_slices_IndexFunc_string_string_r4 : List XI := [{ dst := some 11, op := .move (.t 1) }, { dst := some 12, op := .move (.t 0) }, { dst := some 13, op := .move (.t 5) }, { dst := some 14, op := .indexAddr 1 (.t 12) (.t 13) }, { dst := some 15, op := .load false 1 (.t 14) }, { dst := some 16, op := .dyn (.t 11) [(.t 15)] }]
def x_slices_IndexFunc_string_string_r5 : List XI := [{ dst := some 17, op := .move (.t 5) }, { dst := some 4, op := .move (.t 17) }]
def x_slices_IndexFunc_string_string_r6 : List XI := [{ dst := some 18, op := .bin .add (.t 8) (.c (.d (.int .i64 1))) }, { dst := some 8, op := .move (.t 18) }]
def x_slices_IndexFunc_string_string_l7 : XC :=
 (.seq (.region x_slices_IndexFunc_string_string_r2)
 (.seq (.cond (.t 9)
 .skip
 (.exit 0))
 (.seq (.block 1 (.seq (.region x_slices_IndexFunc_string_string_r3)
 (.seq (.region x_slices_IndexFunc_string_string_r4)
 (.cond (.t 16)
 (.seq (.region x_slices_IndexFunc_string_string_r5)
 .ret)
 .skip))))
 (.region x_slices_IndexFunc_string_string_r6))))
def x_slices_IndexFunc_string_string_r8 : List XI := [{ dst := some 4, op := .move (.c (.d (.int .i64 (-1)))) }]
def x_slices_IndexFunc_string_string : XC :=
 (.seq (.region x_slices_IndexFunc_string_string_r0)
 (.seq (.seq (.region x_slices_IndexFunc_string_string_r1)
 (.block 0 (.loop x_slices_IndexFunc_string_string_l7)))
 (.seq (.region x_slices_IndexFunc_string_string_r8)
 .ret)))
theorem F_slices_IndexFunc_string_string : Fn PR n_slices_IndexFunc_string_string 19 x_slices_IndexFunc_string_string [.tmp 4] := ⟨fun vs w => Try.call42 vs w, Try.f42, _, Try.func42, rfl, rfl, by kernel_rfl, by kernel_rfl⟩

def x_syntax_size_full_r0 : List XI := [{ dst := some 2, op := .move (.c (.d (.bool false))) }]
def x_syntax_size_full_r1s0 : List XI := [{ dst := some 3, op := .move (.t 0) }, { dst := some 4, op := .nilCheck (.t 3) }, { dst := some 5, op := .fieldAddr 0 (.t 4) }, { dst := some 6, op := .load false 1 (.t 5) }, { dst := some 7, op := .bin .geq (.t 6) (.c (.d (.int .i64 1000))) }, { dst := some 8, op := .move (.t 7) }, { dst := some 9, op := .move (.t 0), guard := some (8, false) }, { dst := some 10, op := .nilCheck (.t 9), guard := some (8, false) }, { dst := some 11, op := .fieldAddr 1 (.t 10), guard := some (8, false) }, { dst := some 12, op := .load false 1 (.t 11), guard := some (8, false) }, { dst := some 13, op := .bin .geq (.t 12) (.c (.d (.int .i64 1000))), guard := some (8, false) }, { dst := some 14, op := .pick (.t 8) (.c (.d (.bool true))) (.t 13) }]
def x_syntax_size_full_r1s1 : List XI := [{ dst := some 2, op := .move (.t 14) }]
def x_syntax_size_full_r1 : List XI := x_syntax_size_full_r1s0 ++ (x_syntax_size_full_r1s1)
def x_syntax_size_full : XC :=
 (.seq (.region x_syntax_size_full_r0)
 (.seq (.region x_syntax_size_full_r1)
 .ret))
theorem F_syntax_size_full : Fn PR n_syntax_size_full 15 x_syntax_size_full [.tmp 2] := ⟨fun vs w => Try.call45 vs w, Try.f45, _, Try.func45, rfl, rfl, by kernel_rfl, by kernel_rfl⟩

def x_syntax_size_add_r0 : List XI := [{ dst := some 3, op := .box (.t 1) }]
def x_syntax_size_add_r1 : List XI := [{ dst := some 4, op := .move (.t 0) }, { dst := some 5, op := .move (.t 0) }, { dst := some 6, op := .move (.t 0) }, { dst := some 7, op := .nilCheck (.t 6) }, { dst := some 8, op := .fieldAddr 0 (.t 7) }, { dst := some 9, op := .load false 1 (.t 8) }, { dst := some 10, op := .fieldAddr 0 (.t 3) }, { dst := some 11, op := .load false 1 (.t 10) }, { dst := some 12, op := .bin .add (.t 9) (.t 11) }, { dst := some 13, op := .minmax false (.t 12) [(.c (.d (.int .i64 1000)))] }, { dst := some 14, op := .move (.t 0) }, { dst := some 15, op := .nilCheck (.t 14) }, { dst := some 16, op := .fieldAddr 1 (.t 15) }, { dst := some 17, op := .load false 1 (.t 16) }, { dst := some 18, op := .fieldAddr 1 (.t 3) }, { dst := some 19, op := .load false 1 (.t 18) }, { dst := some 20, op := .minmax true (.t 17) [(.t 19)] }, { dst := some 21, op := .nilCheck (.t 4) }, { dst := some 22, op := .fieldAddr 0 (.t 21) }, { dst := none, op := .store 1 (.t 22) (.t 13) }, { dst := some 23, op := .nilCheck (.t 5) }, { dst := some 24, op := .fieldAddr 1 (.t 23) }, { dst := none, op := .store 1 (.t 24) (.t 20) }]
def x_syntax_size_add : XC :=
 (.seq (.region x_syntax_size_add_r0)
 (.regionD x_syntax_size_add_r1 [[], [], [], [2], [3, 2], [4, 3, 2], [], [6], [5, 4, 3, 2, 7, 6], [8, 5, 4, 3, 2, 7, 6], [], [10], [11, 10], [12, 11, 10], [], [14], [13, 12, 11, 10, 15, 14], [0, 2, 3, 4, 5, 6, 7, 8, 9, 13, 12, 11, 10], [17, 0, 2, 3, 4, 5, 6, 7, 8, 9, 13, 12, 11, 10], [18, 17, 0, 2, 3, 4, 5, 6, 7, 8, 9, 13, 12, 11, 10], [1, 0, 2, 3, 4, 5, 6, 7, 8, 9, 10, 11, 12, 13, 14, 15, 16, 17, 18, 19], [20, 1, 0, 2, 3, 4, 5, 6, 7, 8, 9, 10, 11, 12, 13, 14, 15, 16, 17, 18, 19], [21, 20, 1, 0, 2, 3, 4, 5, 6, 7, 8, 9, 10, 11, 12, 13, 14, 15, 16, 17, 18, 19]] 0))
theorem F_syntax_size_add : Fn PR n_syntax_size_add 25 x_syntax_size_add [] := ⟨fun vs w => Try.call46 vs w, Try.f46, _, Try.func46, rfl, rfl, by kernel_rfl, by kernel_rfl⟩

def x_syntax_all_api_Expr_r0 : List XI := [{ dst := some 6, op := .alloc [(.d (.int .i64 0)), (.d (.int .i64 0))] }]
def x_syntax_all_api_Expr_r1 : List XI := [{ dst := some 7, op := .alloc [(.d (.int .i64 0)), (.d (.int .i64 0))] }]
def x_syntax_all_api_Expr_r2 : List XI := [{ dst := some 10, op := .move (.t 0) }, { dst := some 11, op := .lenR (.t 10) }, { dst := some 12, op := .move (.c (.d (.int .i64 0))) }]
def x_syntax_all_api_Expr_r3 : List XI := [{ dst := some 13, op := .bin .lss (.t 12) (.t 11) }]
def x_syntax_all_api_Expr_r4 : List XI := [{ dst := some 14, op := .indexAddr 6 (.t 10) (.t 12) }, { dst := some 15, op := .load true 6 (.t 14) }, { dst := some 9, op := .alloc [(.d (.int .i64 0)), (.d (.int .i64 0)), (.d (.str ⟨#[]⟩)), (.d (.str ⟨#[]⟩)), (.d (.str ⟨#[]⟩)), (.ex [])] }, { dst := none, op := .store 6 (.t 9) (.t 15) }]
def x_syntax_all_api_Expr_r5 : List XI := [{ dst := some 16, op := .call n_syntax_size_full [(.t 7)] }, { dst := some 17, op := .move (.t 16) }, { dst := some 18, op := .move (.t 1), guard := some (17, false) }, { dst := some 19, op := .bin .geq (.t 18) (.c (.d (.int .i64 1000))), guard := some (17, false) }, { dst := some 20, op := .pick (.t 17) (.c (.d (.bool true))) (.t 19) }]
def x_syntax_all_api_Expr_r6 : List XI := [{ dst := some 21, op := .build [(.d (.int .i64 0)), (.d (.int .i64 0))] [(0, 1, (.c (.d (.int .i64 1000)))), (1, 1, (.c (.d (.int .i64 1000))))] }, { dst := none, op := .store 2 (.t 6) (.t 21) }]
def x_syntax_all_api_Expr_r7 : List XI := [{ dst := some 22, op := .move (.t 2) }, { dst := some 23, op := .load true 6 (.t 9) }, { dst := some 24, op := .move (.t 1) }, { dst := some 25, op := .dyn (.t 22) [(.t 23), (.t 24)] }, { dst := some 26, op := .call n_syntax_size_add [(.t 7), (.t 25)] }]
def x_syntax_all_api_Expr_r8 : List XI := [{ dst := some 27, op := .bin .add (.t 12) (.c (.d (.int .i64 1))) }, { dst := some 12, op := .move (.t 27) }]
def x_syntax_all_api_Expr_l9 : XC :=
 (.seq (.region x_syntax_all_api_Expr_r3)
 (.seq (.cond (.t 13)
 .skip
 (.exit 0))
 (.seq (.block 1 (.seq (.region x_syntax_all_api_Expr_r4)
 (.seq (.seq (.region x_syntax_all_api_Expr_r5)
 (.cond (.t 20)
 (.seq (.region x_syntax_all_api_Expr_r6)
 .ret)
 .skip))
 (.region x_syntax_all_api_Expr_r7))))
 (.region x_syntax_all_api_Expr_r8))))
def x_syntax_all_api_Expr_r10 : List XI := [{ dst := some 28, op := .load true 2 (.t 7) }, { dst := none, op := .store 2 (.t 6) (.t 28) }]
def x_syntax_all_api_Expr : XC :=
 (.seq (.region x_syntax_all_api_Expr_r0)
 (.seq (.region x_syntax_all_api_Expr_r1)
 (.seq (.seq (.region x_syntax_all_api_Expr_r2)
 (.block 0 (.loop x_syntax_all_api_Expr_l9)))
 (.seq (.region x_syntax_all_api_Expr_r10)
 .ret))))
theorem F_syntax_all_api_Expr : Fn PR n_syntax_all_api_Expr 29 x_syntax_all_api_Expr [.cell 6 true 2] := ⟨fun vs w => Try.call47 vs w, Try.f47, _, Try.func47, rfl, rfl, by kernel_rfl, by kernel_rfl⟩

def x_syntax_sizeExpr_r0 : List XI := [{ dst := some 2, op := .box (.t 0) }, { dst := some 4, op := .alloc [(.d (.int .i64 0)), (.d (.int .i64 0))] }]
def x_syntax_sizeExpr_r1 : List XI := [{ dst := some 5, op := .fieldAddr 5 (.t 2) }, { dst := some 6, op := .load false 1 (.t 5) }, { dst := some 7, op := .move (.t 1) }, { dst := some 8, op := .bin .add (.t 7) (.c (.d (.int .i64 1))) }, { dst := some 9, op := .call n_syntax_all_api_Expr [(.t 6), (.t 8), (.c (.fn n_syntax_sizeExpr [] []))] }, { dst := some 10, op := .call n_syntax_over [(.t 9)] }, { dst := none, op := .store 2 (.t 4) (.t 10) }]
def x_syntax_sizeExpr : XC :=
 (.seq (.region x_syntax_sizeExpr_r0)
 (.seq (.region x_syntax_sizeExpr_r1)
 .ret))
theorem F_syntax_sizeExpr : Fn PR n_syntax_sizeExpr 11 x_syntax_sizeExpr [.cell 4 true 2] := ⟨fun vs w => Try.call48 vs w, Try.f48, _, Try.func48, rfl, rfl, by kernel_rfl, by kernel_rfl⟩

def x_syntax_over_r0 : List XI := [{ dst := some 1, op := .box (.t 0) }, { dst := some 2, op := .alloc [(.d (.int .i64 0)), (.d (.int .i64 0))] }]
def x_syntax_over_r1 : List XI := [{ dst := some 3, op := .fieldAddr 0 (.t 1) }, { dst := some 4, op := .load false 1 (.t 3) }, { dst := some 5, op := .bin .add (.t 4) (.c (.d (.int .i64 1))) }, { dst := some 6, op := .minmax false (.t 5) [(.c (.d (.int .i64 1000)))] }, { dst := some 7, op := .fieldAddr 1 (.t 1) }, { dst := some 8, op := .load false 1 (.t 7) }, { dst := some 9, op := .bin .add (.t 8) (.c (.d (.int .i64 1))) }, { dst := some 10, op := .minmax false (.t 9) [(.c (.d (.int .i64 1000)))] }, { dst := some 11, op := .build [(.d (.int .i64 0)), (.d (.int .i64 0))] [(0, 1, (.t 6)), (1, 1, (.t 10))] }, { dst := none, op := .store 2 (.t 2) (.t 11) }]
def x_syntax_over : XC :=
 (.seq (.region x_syntax_over_r0)
 (.seq (.region x_syntax_over_r1)
 .ret))
theorem F_syntax_over : Fn PR n_syntax_over 12 x_syntax_over [.cell 2 true 2] := ⟨fun vs w => Try.call49 vs w, Try.f49, _, Try.func49, rfl, rfl, by kernel_rfl, by kernel_rfl⟩

def x_syntax_uses_stmt_r0 : List XI := [{ dst := some 2, op := .box (.t 0) }, { dst := some 3, op := .box (.t 1) }]
def x_syntax_uses_stmt_r1 : List XI := [{ dst := some 8, op := .fieldAddr 0 (.t 3) }, { dst := some 9, op := .load false 1 (.t 8) }]
def x_syntax_uses_stmt_r2 : List XI := [{ dst := some 11, op := .bin .eql (.t 9) (.c (.d (.int .i64 4))) }, { dst := some 10, op := .move (.t 11) }]
def x_syntax_uses_stmt_r3 : List XI := [{ dst := some 12, op := .bin .eql (.t 9) (.c (.d (.int .i64 5))) }, { dst := some 10, op := .move (.t 12) }]
def x_syntax_uses_stmt_r4 : List XI := [{ dst := some 13, op := .fieldAddr 0 (.t 2) }, { dst := some 14, op := .load false 1 (.t 13) }, { dst := some 15, op := .fieldAddr 2 (.t 3) }, { dst := some 16, op := .load false 1 (.t 15) }, { dst := some 17, op := .fieldAddr 1 (.t 2) }, { dst := some 18, op := .load false 1 (.t 17) }, { dst := some 19, op := .fieldAddr 2 (.t 3) }, { dst := some 20, op := .load false 1 (.t 19) }, { dst := none, op := .mapSet ty_string ty_bool (.t 14) (.t 16) (.c (.d (.bool true))) }, { dst := none, op := .mapSet ty_string ty_bool (.t 18) (.t 20) (.c (.d (.bool true))) }]
def x_syntax_uses_stmt_r5 : List XI := [{ dst := some 22, op := .bin .eql (.t 9) (.c (.d (.int .i64 6))) }, { dst := some 21, op := .move (.t 22) }]
def x_syntax_uses_stmt_r6 : List XI := [{ dst := some 23, op := .fieldAddr 0 (.t 2) }, { dst := some 24, op := .load false 1 (.t 23) }, { dst := some 25, op := .fieldAddr 2 (.t 3) }, { dst := some 26, op := .load false 1 (.t 25) }, { dst := none, op := .mapSet ty_string ty_bool (.t 24) (.t 26) (.c (.d (.bool true))) }]
def x_syntax_uses_stmt_r7 : List XI := [{ dst := some 28, op := .bin .eql (.t 9) (.c (.d (.int .i64 3))) }, { dst := some 27, op := .move (.t 28) }]
def x_syntax_uses_stmt_r8 : List XI := [{ dst := some 29, op := .fieldAddr 1 (.t 2) }, { dst := some 30, op := .load false 1 (.t 29) }, { dst := some 31, op := .fieldAddr 2 (.t 3) }, { dst := some 32, op := .load false 1 (.t 31) }, { dst := none, op := .mapSet ty_string ty_bool (.t 30) (.t 32) (.c (.d (.bool true))) }]
def x_syntax_uses_stmt_r9 : List XI := [{ dst := some 34, op := .bin .eql (.t 9) (.c (.d (.int .i64 8))) }, { dst := some 33, op := .move (.t 34) }]
def x_syntax_uses_stmt_r10 : List XI := [{ dst := some 35, op := .fieldAddr 2 (.t 2) }, { dst := some 36, op := .load false 1 (.t 35) }, { dst := some 37, op := .fieldAddr 2 (.t 3) }, { dst := some 38, op := .load false 1 (.t 37) }, { dst := none, op := .mapSet ty_string ty_bool (.t 36) (.t 38) (.c (.d (.bool true))) }]
def x_syntax_uses_stmt_r11 : List XI := [{ dst := some 39, op := .fieldAddr 5 (.t 3) }, { dst := some 40, op := .load false 1 (.t 39) }, { dst := some 41, op := .lenR (.t 40) }, { dst := some 42, op := .move (.c (.d (.int .i64 0))) }]
def x_syntax_uses_stmt_r12 : List XI := [{ dst := some 43, op := .bin .lss (.t 42) (.t 41) }]
def x_syntax_uses_stmt_r13 : List XI := [{ dst := some 44, op := .indexAddr 6 (.t 40) (.t 42) }, { dst := some 45, op := .load true 6 (.t 44) }, { dst := some 5, op := .alloc [(.d (.int .i64 0)), (.d (.int .i64 0)), (.d (.str ⟨#[]⟩)), (.d (.str ⟨#[]⟩)), (.d (.str ⟨#[]⟩)), (.ex [])] }, { dst := none, op := .store 6 (.t 5) (.t 45) }]
def x_syntax_uses_stmt_r14 : List XI := [{ dst := some 46, op := .load true 3 (.t 2) }, { dst := some 47, op := .load true 6 (.t 5) }, { dst := some 48, op := .call n_syntax_uses_expr [(.t 46), (.t 47)] }]
def x_syntax_uses_stmt_r15 : List XI := [{ dst := some 49, op := .bin .add (.t 42) (.c (.d (.int .i64 1))) }, { dst := some 42, op := .move (.t 49) }]
def x_syntax_uses_stmt_l16 : XC :=
 (.seq (.region x_syntax_uses_stmt_r12)
 (.seq (.cond (.t 43)
 .skip
 (.exit 1))
 (.seq (.block 2 (.seq (.region x_syntax_uses_stmt_r13)
 (.region x_syntax_uses_stmt_r14)))
 (.region x_syntax_uses_stmt_r15))))
def x_syntax_uses_stmt_r17 : List XI := [{ dst := some 50, op := .fieldAddr 6 (.t 3) }, { dst := some 51, op := .load false 1 (.t 50) }, { dst := some 52, op := .call n_slices_Clone_api_Stmt_api_Stmt [(.t 51)] }, { dst := some 53, op := .fieldAddr 7 (.t 3) }, { dst := some 54, op := .load false 1 (.t 53) }, { dst := some 55, op := .append ty_api_Stmt 8 144 (.t 52) (.t 54), nm := 1 }, { dst := some 56, op := .lenR (.t 55) }, { dst := some 57, op := .move (.c (.d (.int .i64 0))) }]
def x_syntax_uses_stmt_r18 : List XI := [{ dst := some 58, op := .bin .lss (.t 57) (.t 56) }]
def x_syntax_uses_stmt_r19 : List XI := [{ dst := some 59, op := .indexAddr 8 (.t 55) (.t 57) }, { dst := some 60, op := .load true 8 (.t 59) }, { dst := some 7, op := .alloc [(.d (.int .i64 0)), (.d (.str ⟨#[]⟩)), (.d (.str ⟨#[]⟩)), (.d (.int .i64 0)), (.ex []), (.ex []), (.ex []), (.ex [])] }, { dst := none, op := .store 8 (.t 7) (.t 60) }]
def x_syntax_uses_stmt_r20 : List XI := [{ dst := some 61, op := .load true 3 (.t 2) }, { dst := some 62, op := .load true 8 (.t 7) }, { dst := some 63, op := .call n_syntax_uses_stmt [(.t 61), (.t 62)] }]
def x_syntax_uses_stmt_r21 : List XI := [{ dst := some 64, op := .bin .add (.t 57) (.c (.d (.int .i64 1))) }, { dst := some 57, op := .move (.t 64) }]
def x_syntax_uses_stmt_l22 : XC :=
 (.seq (.region x_syntax_uses_stmt_r18)
 (.seq (.cond (.t 58)
 .skip
 (.exit 3))
 (.seq (.block 4 (.seq (.region x_syntax_uses_stmt_r19)
 (.region x_syntax_uses_stmt_r20)))
 (.region x_syntax_uses_stmt_r21))))
def x_syntax_uses_stmt : XC :=
 (.seq (.region x_syntax_uses_stmt_r0)
 (.seq (.seq (.region x_syntax_uses_stmt_r1)
 (.block 0 (.seq (.seq (.region x_syntax_uses_stmt_r2)
 (.cond (.t 10)
 .skip
 (.region x_syntax_uses_stmt_r3)))
 (.cond (.t 10)
 (.regionD x_syntax_uses_stmt_r4 [[], [0], [], [2], [], [4], [], [6], [1, 0, 3, 2], [5, 4, 7, 6, 8, 1, 0, 3, 2]] 0)
 (.seq (.region x_syntax_uses_stmt_r5)
 (.cond (.t 21)
 (.region x_syntax_uses_stmt_r6)
 (.seq (.region x_syntax_uses_stmt_r7)
 (.cond (.t 27)
 (.region x_syntax_uses_stmt_r8)
 (.seq (.region x_syntax_uses_stmt_r9)
 (.cond (.t 33)
 (.region x_syntax_uses_stmt_r10)
 .skip))))))))))
 (.seq (.seq (.region x_syntax_uses_stmt_r11)
 (.block 1 (.loop x_syntax_uses_stmt_l16)))
 (.seq (.regionD x_syntax_uses_stmt_r17 [[], [0], [1, 0], [], [3], [2, 1, 0, 4, 3], [5, 2, 1, 0, 4, 3], []] 2)
 (.block 3 (.loop x_syntax_uses_stmt_l22))))))
theorem F_syntax_uses_stmt : Fn PR n_syntax_uses_stmt 65 x_syntax_uses_stmt [] := ⟨fun vs w => Try.call53 vs w, Try.f53, _, Try.func53, rfl, rfl, by kernel_rfl, by kernel_rfl⟩

def x_syntax_within_r0 : List XI := [{ dst := some 6, op := .move (.c (.d (.bool false))) }]
def x_syntax_within_r1s0 : List XI := [{ dst := some 7, op := .move (.t 0) }, { dst := some 8, op := .move (.t 1) }, { dst := some 9, op := .bin .geq (.t 7) (.t 8) }, { dst := some 10, op := .move (.t 9) }, { dst := some 11, op := .move (.t 0), guard := some (10, true) }, { dst := some 12, op := .move (.t 2), guard := some (10, true) }, { dst := some 13, op := .bin .leq (.t 11) (.t 12), guard := some (10, true) }, { dst := some 14, op := .pick (.t 10) (.t 13) (.c (.d (.bool false))) }]
def x_syntax_within_r1s1 : List XI := [{ dst := some 6, op := .move (.t 14) }]
def x_syntax_within_r1 : List XI := x_syntax_within_r1s0 ++ (x_syntax_within_r1s1)
def x_syntax_within : XC :=
 (.seq (.region x_syntax_within_r0)
 (.seq (.region x_syntax_within_r1)
 .ret))
theorem F_syntax_within : Fn PR n_syntax_within 15 x_syntax_within [.tmp 6] := ⟨fun vs w => Try.call54 vs w, Try.f54, _, Try.func54, rfl, rfl, by kernel_rfl, by kernel_rfl⟩

def x_slices_ContainsFunc_api_Stmt_api_Stmt_r0 : List XI := [{ dst := some 4, op := .move (.c (.d (.bool false))) }]
def x_slices_ContainsFunc_api_Stmt_api_Stmt_r1 : List XI := [{ dst := some 5, op := .move (.t 0) }, { dst := some 6, op := .move (.t 1) }, { dst := some 7, op := .call n_slices_IndexFunc_api_Stmt_api_Stmt [(.t 5), (.t 6)] }, { dst := some 8, op := .bin .geq (.t 7) (.c (.d (.int .i64 0))) }, { dst := some 4, op := .move (.t 8) }]
def x_slices_ContainsFunc_api_Stmt_api_Stmt : XC :=
 (.seq (.region x_slices_ContainsFunc_api_Stmt_api_Stmt_r0)
 (.seq (.region x_slices_ContainsFunc_api_Stmt_api_Stmt_r1)
 .ret))
theorem F_slices_ContainsFunc_api_Stmt_api_Stmt : Fn PR n_slices_ContainsFunc_api_Stmt_api_Stmt 9 x_slices_ContainsFunc_api_Stmt_api_Stmt [.tmp 4] := ⟨fun vs w => Try.call56 vs w, Try.f56, _, Try.func56, rfl, rfl, by kernel_rfl, by kernel_rfl⟩

def x_syntax_blocks_1_r0 : List XI := [{ dst := some 1, op := .box (.t 0) }, { dst := some 2, op := .move (.c (.d (.bool false))) }]
def x_syntax_blocks_1_r1 : List XI := [{ dst := some 3, op := .load true 8 (.t 1) }, { dst := some 4, op := .call n_syntax_built [(.t 3)] }, { dst := some 5, op := .not (.t 4) }, { dst := some 2, op := .move (.t 5) }]
def x_syntax_blocks_1 : XC :=
 (.seq (.region x_syntax_blocks_1_r0)
 (.seq (.region x_syntax_blocks_1_r1)
 .ret))
theorem F_syntax_blocks_1 : Fn PR n_syntax_blocks_1 6 x_syntax_blocks_1 [.tmp 2] := ⟨fun vs w => Try.call57 vs w, Try.f57, _, Try.func57, rfl, rfl, by kernel_rfl, by kernel_rfl⟩

def x_syntax_built_r0 : List XI := [{ dst := some 1, op := .box (.t 0) }, { dst := some 2, op := .move (.c (.d (.bool false))) }]
def x_syntax_built_r1s0 : List XI := [{ dst := some 3, op := .load true 8 (.t 1) }, { dst := some 4, op := .call n_syntax_shape [(.t 3)] }, { dst := some 5, op := .move (.t 4) }, { dst := some 6, op := .fieldAddr 5 (.t 1), guard := some (5, true) }, { dst := some 7, op := .load false 1 (.t 6), guard := some (5, true) }, { dst := some 8, op := .call n_slices_ContainsFunc_api_Expr_api_Expr [(.t 7), (.c (.fn n_syntax_built_1 [] []))], guard := some (5, true) }, { dst := some 9, op := .not (.t 8), guard := some (5, true) }, { dst := some 10, op := .pick (.t 5) (.t 9) (.c (.d (.bool false))) }]
def x_syntax_built_r1s1 : List XI := [{ dst := some 11, op := .move (.t 10) }, { dst := some 12, op := .fieldAddr 6 (.t 1), guard := some (11, true) }, { dst := some 13, op := .load false 1 (.t 12), guard := some (11, true) }, { dst := some 14, op := .call n_syntax_blocks [(.t 13)], guard := some (11, true) }, { dst := some 15, op := .pick (.t 11) (.t 14) (.c (.d (.bool false))) }]
def x_syntax_built_r1s2 : List XI := [{ dst := some 16, op := .move (.t 15) }, { dst := some 17, op := .fieldAddr 7 (.t 1), guard := some (16, true) }, { dst := some 18, op := .load false 1 (.t 17), guard := some (16, true) }, { dst := some 19, op := .call n_syntax_blocks [(.t 18)], guard := some (16, true) }, { dst := some 20, op := .pick (.t 16) (.t 19) (.c (.d (.bool false))) }]
def x_syntax_built_r1s3 : List XI := [{ dst := some 2, op := .move (.t 20) }]
def x_syntax_built_r1 : List XI := x_syntax_built_r1s0 ++ (x_syntax_built_r1s1 ++ (x_syntax_built_r1s2 ++ (x_syntax_built_r1s3)))
def x_syntax_built : XC :=
 (.seq (.region x_syntax_built_r0)
 (.seq (.region x_syntax_built_r1)
 .ret))
theorem F_syntax_built : Fn PR n_syntax_built 21 x_syntax_built [.tmp 2] := ⟨fun vs w => Try.call58 vs w, Try.f58, _, Try.func58, rfl, rfl, by kernel_rfl, by kernel_rfl⟩

def x_schema_letter_r0 : List XI := [{ dst := some 2, op := .move (.c (.d (.bool false))) }]
def x_schema_letter_r1s0 : List XI := [{ dst := some 3, op := .move (.t 0) }, { dst := some 4, op := .bin .geq (.t 3) (.c (.d (.int .u8 97))) }, { dst := some 5, op := .move (.t 4) }, { dst := some 6, op := .move (.t 0), guard := some (5, true) }, { dst := some 7, op := .bin .leq (.t 6) (.c (.d (.int .u8 122))), guard := some (5, true) }, { dst := some 8, op := .pick (.t 5) (.t 7) (.c (.d (.bool false))) }]
def x_schema_letter_r1s1 : List XI := [{ dst := some 2, op := .move (.t 8) }]
def x_schema_letter_r1 : List XI := x_schema_letter_r1s0 ++ (x_schema_letter_r1s1)
def x_schema_letter : XC :=
 (.seq (.region x_schema_letter_r0)
 (.seq (.region x_schema_letter_r1)
 .ret))
theorem F_schema_letter : Fn PR n_schema_letter 9 x_schema_letter [.tmp 2] := ⟨fun vs w => Try.call59 vs w, Try.f59, _, Try.func59, rfl, rfl, by kernel_rfl, by kernel_rfl⟩

def x_schema_part_r0 : List XI := [{ dst := some 2, op := .move (.c (.d (.bool false))) }]
def x_schema_part_r1s0 : List XI := [{ dst := some 3, op := .move (.t 0) }, { dst := some 4, op := .call n_schema_letter [(.t 3)] }, { dst := some 5, op := .move (.t 4) }, { dst := some 6, op := .move (.t 0), guard := some (5, false) }, { dst := some 7, op := .bin .geq (.t 6) (.c (.d (.int .u8 48))), guard := some (5, false) }, { dst := some 8, op := .move (.t 7), guard := some (5, false) }, { dst := some 9, op := .move (.t 0), guard := some (8, true) }, { dst := some 10, op := .bin .leq (.t 9) (.c (.d (.int .u8 57))), guard := some (8, true) }, { dst := some 11, op := .pick (.t 8) (.t 10) (.c (.d (.bool false))), guard := some (5, false) }, { dst := some 12, op := .pick (.t 5) (.c (.d (.bool true))) (.t 11) }]
def x_schema_part_r1s1 : List XI := [{ dst := some 13, op := .move (.t 12) }, { dst := some 14, op := .move (.t 0), guard := some (13, false) }, { dst := some 15, op := .bin .eql (.t 14) (.c (.d (.int .u8 95))), guard := some (13, false) }, { dst := some 16, op := .pick (.t 13) (.c (.d (.bool true))) (.t 15) }]
def x_schema_part_r1s2 : List XI := [{ dst := some 2, op := .move (.t 16) }]
def x_schema_part_r1 : List XI := x_schema_part_r1s0 ++ (x_schema_part_r1s1 ++ (x_schema_part_r1s2))
def x_schema_part : XC :=
 (.seq (.region x_schema_part_r0)
 (.seq (.region x_schema_part_r1)
 .ret))
theorem F_schema_part : Fn PR n_schema_part 17 x_schema_part [.tmp 2] := ⟨fun vs w => Try.call60 vs w, Try.f60, _, Try.func60, rfl, rfl, by kernel_rfl, by kernel_rfl⟩

def x_syntax_uses_expr_r0 : List XI := [{ dst := some 2, op := .box (.t 0) }, { dst := some 3, op := .box (.t 1) }]
def x_syntax_uses_expr_r1 : List XI := [{ dst := some 9, op := .fieldAddr 0 (.t 3) }, { dst := some 10, op := .load false 1 (.t 9) }, { dst := some 11, op := .call n_syntax_args [(.t 10)] }, { dst := some 8, op := .move (.t 11) }, { dst := some 12, op := .extract (.t 8) 0 }, { dst := some 13, op := .extract (.t 8) 1 }, { dst := some 4, op := .move (.t 12) }, { dst := some 5, op := .move (.t 13) }]
def x_syntax_uses_expr_r2 : List XI := [{ dst := some 14, op := .move (.t 5) }]
def x_syntax_uses_expr_r3 : List XI := [{ dst := some 15, op := .fieldAddr 0 (.t 2) }, { dst := some 16, op := .load false 1 (.t 15) }, { dst := some 17, op := .fieldAddr 4 (.t 3) }, { dst := some 18, op := .load false 1 (.t 17) }, { dst := none, op := .mapSet ty_string ty_bool (.t 16) (.t 18) (.c (.d (.bool true))) }]
def x_syntax_uses_expr_r4 : List XI := [{ dst := some 19, op := .fieldAddr 5 (.t 3) }, { dst := some 20, op := .load false 1 (.t 19) }, { dst := some 21, op := .lenR (.t 20) }, { dst := some 22, op := .move (.c (.d (.int .i64 0))) }]
def x_syntax_uses_expr_r5 : List XI := [{ dst := some 23, op := .bin .lss (.t 22) (.t 21) }]
def x_syntax_uses_expr_r6 : List XI := [{ dst := some 24, op := .indexAddr 6 (.t 20) (.t 22) }, { dst := some 25, op := .load true 6 (.t 24) }, { dst := some 7, op := .alloc [(.d (.int .i64 0)), (.d (.int .i64 0)), (.d (.str ⟨#[]⟩)), (.d (.str ⟨#[]⟩)), (.d (.str ⟨#[]⟩)), (.ex [])] }, { dst := none, op := .store 6 (.t 7) (.t 25) }]
def x_syntax_uses_expr_r7 : List XI := [{ dst := some 26, op := .load true 3 (.t 2) }, { dst := some 27, op := .load true 6 (.t 7) }, { dst := some 28, op := .call n_syntax_uses_expr [(.t 26), (.t 27)] }]
def x_syntax_uses_expr_r8 : List XI := [{ dst := some 29, op := .bin .add (.t 22) (.c (.d (.int .i64 1))) }, { dst := some 22, op := .move (.t 29) }]
def x_syntax_uses_expr_l9 : XC :=
 (.seq (.region x_syntax_uses_expr_r5)
 (.seq (.cond (.t 23)
 .skip
 (.exit 0))
 (.seq (.block 1 (.seq (.region x_syntax_uses_expr_r6)
 (.region x_syntax_uses_expr_r7)))
 (.region x_syntax_uses_expr_r8))))
def x_syntax_uses_expr : XC :=
 (.seq (.region x_syntax_uses_expr_r0)
 (.seq (.seq (.region x_syntax_uses_expr_r1)
 (.seq (.region x_syntax_uses_expr_r2)
 (.cond (.t 14)
 (.region x_syntax_uses_expr_r3)
 .skip)))
 (.seq (.region x_syntax_uses_expr_r4)
 (.block 0 (.loop x_syntax_uses_expr_l9)))))
theorem F_syntax_uses_expr : Fn PR n_syntax_uses_expr 30 x_syntax_uses_expr [] := ⟨fun vs w => Try.call66 vs w, Try.f66, _, Try.func66, rfl, rfl, by kernel_rfl, by kernel_rfl⟩

def x_slices_Clone_api_Stmt_api_Stmt_r0 : List XI := [{ dst := some 2, op := .move (.c (.ex [])) }]
def x_slices_Clone_api_Stmt_api_Stmt_r1 : List XI := [{ dst := some 3, op := .move (.t 0) }, { dst := some 4, op := .eqNil false (.t 3) }]
def x_slices_Clone_api_Stmt_api_Stmt_r2 : List XI := [{ dst := some 2, op := .move (.c (.ex [])) }]
def x_slices_Clone_api_Stmt_api_Stmt_r3 : List XI := [{ dst := some 5, op := .buildSlice 8 [] }, { dst := some 6, op := .move (.t 0) }, { dst := some 7, op := .append ty_api_Stmt 8 144 (.t 5) (.t 6) }, { dst := some 2, op := .move (.t 7) }]
def x_slices_Clone_api_Stmt_api_Stmt : XC :=
 (.seq (.region x_slices_Clone_api_Stmt_api_Stmt_r0)
 (.seq (.seq (.region x_slices_Clone_api_Stmt_api_Stmt_r1)
 (.cond (.t 4)
 (.seq (.region x_slices_Clone_api_Stmt_api_Stmt_r2)
 .ret)
 .skip))
 (.seq (.region x_slices_Clone_api_Stmt_api_Stmt_r3)
 .ret)))
theorem F_slices_Clone_api_Stmt_api_Stmt : Fn PR n_slices_Clone_api_Stmt_api_Stmt 8 x_slices_Clone_api_Stmt_api_Stmt [.tmp 2] := ⟨fun vs w => Try.call67 vs w, Try.f67, _, Try.func67, rfl, rfl, by kernel_rfl, by kernel_rfl⟩

def x_slices_IndexFunc_api_Stmt_api_Stmt_r0 : List XI := [{ dst := some 4, op := .move (.c (.d (.int .i64 0))) }]
def x_slices_IndexFunc_api_Stmt_api_Stmt_r1 : List XI := [{ dst := some 6, op := .move (.t 0) }, { dst := some 7, op := .lenR (.t 6) }, { dst := some 8, op := .move (.c (.d (.int .i64 0))) }]
def x_slices_IndexFunc_api_Stmt_api_Stmt_r2 : List XI := [{ dst := some 9, op := .bin .lss (.t 8) (.t 7) }]
def x_slices_IndexFunc_api_Stmt_api_Stmt_r3 : List XI := [{ dst := some 10, op := .move (.t 8) }, { dst := some 5, op := .move (.t 10) }]
def x_slices_IndexFunc_api_Stmt_api_Stmt_r4 : List XI := [{ dst := some 11, op := .move (.t 1) }, { dst := some 12, op := .move (.t 0) }, { dst := some 13, op := .move (.t 5) }, { dst := some 14, op := .indexAddr 8 (.t 12) (.t 13) }, { dst := some 15, op := .load true 8 (.t 14) }, { dst := some 16, op := .dyn (.t 11) [(.t 15)] }]
def x_slices_IndexFunc_api_Stmt_api_Stmt_r5 : List XI := [{ dst := some 17, op := .move (.t 5) }, { dst := some 4, op := .move (.t 17) }]
def x_slices_IndexFunc_api_Stmt_api_Stmt_r6 : List XI := [{ dst := some 18, op := .bin .add (.t 8) (.c (.d (.int .i64 1))) }, { dst := some 8, op := .move (.t 18) }]
def x_slices_IndexFunc_api_Stmt_api_Stmt_l7 : XC :=
 (.seq (.region x_slices_IndexFunc_api_Stmt_api_Stmt_r2)
 (.seq (.cond (.t 9)
 .skip
 (.exit 0))
 (.seq (.block 1 (.seq (.region x_slices_IndexFunc_api_Stmt_api_Stmt_r3)
 (.seq (.region x_slices_IndexFunc_api_Stmt_api_Stmt_r4)
 (.cond (.t 16)
 (.seq (.region x_slices_IndexFunc_api_Stmt_api_Stmt_r5)
 .ret)
 .skip))))
 (.region x_slices_IndexFunc_api_Stmt_api_Stmt_r6))))
def x_slices_IndexFunc_api_Stmt_api_Stmt_r8 : List XI := [{ dst := some 4, op := .move (.c (.d (.int .i64 (-1)))) }]
def x_slices_IndexFunc_api_Stmt_api_Stmt : XC :=
 (.seq (.region x_slices_IndexFunc_api_Stmt_api_Stmt_r0)
 (.seq (.seq (.region x_slices_IndexFunc_api_Stmt_api_Stmt_r1)
 (.block 0 (.loop x_slices_IndexFunc_api_Stmt_api_Stmt_l7)))
 (.seq (.region x_slices_IndexFunc_api_Stmt_api_Stmt_r8)
 .ret)))
theorem F_slices_IndexFunc_api_Stmt_api_Stmt : Fn PR n_slices_IndexFunc_api_Stmt_api_Stmt 19 x_slices_IndexFunc_api_Stmt_api_Stmt [.tmp 4] := ⟨fun vs w => Try.call70 vs w, Try.f70, _, Try.func70, rfl, rfl, by kernel_rfl, by kernel_rfl⟩

def x_syntax_shape_r0 : List XI := [{ dst := some 1, op := .box (.t 0) }, { dst := some 2, op := .move (.c (.d (.bool false))) }]
def x_syntax_shape_r1 : List XI := [{ dst := some 3, op := .move (.c (.d (.bool false))) }, { dst := some 4, op := .move (.c (.d (.bool false))) }, { dst := some 5, op := .move (.c (.d (.bool false))) }, { dst := some 6, op := .move (.c (.d (.bool false))) }, { dst := some 7, op := .move (.c (.d (.bool false))) }]
def x_syntax_shape_r2 : List XI := [{ dst := some 8, op := .move (.c (.d (.int .i64 1))) }, { dst := some 9, op := .move (.c (.d (.int .i64 1))) }]
def x_syntax_shape_r3 : List XI := [{ dst := some 10, op := .move (.c (.d (.bool true))) }]
def x_syntax_shape_r4 : List XI := [{ dst := some 11, op := .fieldAddr 0 (.t 1) }, { dst := some 12, op := .load false 1 (.t 11) }]
def x_syntax_shape_r5 : List XI := [{ dst := some 14, op := .bin .eql (.t 12) (.c (.d (.int .i64 1))) }, { dst := some 13, op := .move (.t 14) }]
def x_syntax_shape_r6 : List XI := [{ dst := some 15, op := .bin .eql (.t 12) (.c (.d (.int .i64 2))) }, { dst := some 13, op := .move (.t 15) }]
def x_syntax_shape_r7 : List XI := [{ dst := some 3, op := .move (.c (.d (.bool true))) }, { dst := some 10, op := .move (.c (.d (.bool false))) }]
def x_syntax_shape_r8 : List XI := [{ dst := some 17, op := .bin .eql (.t 12) (.c (.d (.int .i64 3))) }, { dst := some 16, op := .move (.t 17) }]
def x_syntax_shape_r9 : List XI := [{ dst := some 18, op := .bin .eql (.t 12) (.c (.d (.int .i64 8))) }, { dst := some 16, op := .move (.t 18) }]
def x_syntax_shape_r10 : List XI := [{ dst := some 9, op := .move (.c (.d (.int .i64 8))) }]
def x_syntax_shape_r11 : List XI := [{ dst := some 20, op := .bin .eql (.t 12) (.c (.d (.int .i64 4))) }, { dst := some 19, op := .move (.t 20) }]
def x_syntax_shape_r12 : List XI := [{ dst := some 3, op := .move (.c (.d (.bool true))) }, { dst := some 4, op := .move (.c (.d (.bool true))) }]
def x_syntax_shape_r13 : List XI := [{ dst := some 21, op := .fieldAddr 4 (.t 1) }, { dst := some 22, op := .load false 1 (.t 21) }, { dst := some 23, op := .lenR (.t 22) }, { dst := some 24, op := .bin .add (.t 23) (.c (.d (.int .i64 1))) }, { dst := some 25, op := .fieldAddr 4 (.t 1) }, { dst := some 26, op := .load false 1 (.t 25) }, { dst := some 27, op := .lenR (.t 26) }, { dst := some 28, op := .bin .add (.t 27) (.c (.d (.int .i64 1))) }, { dst := some 8, op := .move (.t 24) }, { dst := some 9, op := .move (.t 28) }]
def x_syntax_shape_r14 : List XI := [{ dst := some 30, op := .bin .eql (.t 12) (.c (.d (.int .i64 5))) }, { dst := some 29, op := .move (.t 30) }]
def x_syntax_shape_r15 : List XI := [{ dst := some 3, op := .move (.c (.d (.bool true))) }]
def x_syntax_shape_r16 : List XI := [{ dst := some 32, op := .bin .eql (.t 12) (.c (.d (.int .i64 6))) }, { dst := some 31, op := .move (.t 32) }]
def x_syntax_shape_r17 : List XI := [{ dst := some 3, op := .move (.c (.d (.bool true))) }, { dst := some 5, op := .move (.c (.d (.bool true))) }, { dst := some 6, op := .move (.c (.d (.bool true))) }]
def x_syntax_shape_r18 : List XI := [{ dst := some 34, op := .bin .eql (.t 12) (.c (.d (.int .i64 7))) }, { dst := some 33, op := .move (.t 34) }]
def x_syntax_shape_r19 : List XI := [{ dst := some 6, op := .move (.c (.d (.bool true))) }, { dst := some 7, op := .move (.c (.d (.bool true))) }, { dst := some 10, op := .move (.c (.d (.bool false))) }]
def x_syntax_shape_r20 : List XI := [{ dst := some 36, op := .bin .eql (.t 12) (.c (.d (.int .i64 9))) }, { dst := some 35, op := .move (.t 36) }]
def x_syntax_shape_r21 : List XI := [{ dst := some 10, op := .move (.c (.d (.bool false))) }]
def x_syntax_shape_r22 : List XI := [{ dst := some 38, op := .bin .eql (.t 12) (.c (.d (.int .i64 10))) }, { dst := some 37, op := .move (.t 38) }]
def x_syntax_shape_r23 : List XI := [{ dst := some 9, op := .move (.c (.d (.int .i64 8))) }, { dst := some 10, op := .move (.c (.d (.bool false))) }]
def x_syntax_shape_r24 : List XI := [{ dst := some 2, op := .move (.c (.d (.bool false))) }]
def x_syntax_shape_r25s0 : List XI := [{ dst := some 39, op := .move (.t 3) }, { dst := some 40, op := .fieldAddr 1 (.t 1) }, { dst := some 41, op := .load false 1 (.t 40) }, { dst := some 42, op := .call n_syntax_has [(.t 39), (.t 41)] }, { dst := some 43, op := .call n_syntax_Free [(.t 42)] }, { dst := some 44, op := .move (.t 43) }, { dst := some 45, op := .move (.t 10), guard := some (44, true) }, { dst := some 46, op := .fieldAddr 2 (.t 1), guard := some (44, true) }, { dst := some 47, op := .load false 1 (.t 46), guard := some (44, true) }, { dst := some 48, op := .call n_syntax_has [(.t 45), (.t 47)], guard := some (44, true) }, { dst := some 49, op := .call n_syntax_Free [(.t 48)], guard := some (44, true) }, { dst := some 50, op := .pick (.t 44) (.t 49) (.c (.d (.bool false))) }]
def x_syntax_shape_r25s1 : List XI := [{ dst := some 51, op := .move (.t 50) }, { dst := some 52, op := .move (.t 3), guard := some (51, true) }, { dst := some 53, op := .move (.t 52), guard := some (51, true) }, { dst := some 54, op := .fieldAddr 1 (.t 1), guard := some (53, false) }, { dst := some 55, op := .load false 1 (.t 54), guard := some (53, false) }, { dst := some 56, op := .bin .eql (.t 55) (.c (.d (.str ⟨#[]⟩))), guard := some (53, false) }, { dst := some 57, op := .pick (.t 53) (.c (.d (.bool true))) (.t 56), guard := some (51, true) }, { dst := some 58, op := .pick (.t 51) (.t 57) (.c (.d (.bool false))) }]
def x_syntax_shape_r25s2 : List XI := [{ dst := some 59, op := .move (.t 58) }, { dst := some 60, op := .move (.t 10), guard := some (59, true) }, { dst := some 61, op := .move (.t 60), guard := some (59, true) }, { dst := some 62, op := .fieldAddr 2 (.t 1), guard := some (61, false) }, { dst := some 63, op := .load false 1 (.t 62), guard := some (61, false) }, { dst := some 64, op := .bin .eql (.t 63) (.c (.d (.str ⟨#[]⟩))), guard := some (61, false) }, { dst := some 65, op := .pick (.t 61) (.c (.d (.bool true))) (.t 64), guard := some (59, true) }, { dst := some 66, op := .pick (.t 59) (.t 65) (.c (.d (.bool false))) }]
def x_syntax_shape_r25s3 : List XI := [{ dst := some 67, op := .move (.t 66) }, { dst := some 68, op := .move (.t 4), guard := some (67, true) }, { dst := some 69, op := .move (.t 68), guard := some (67, true) }, { dst := some 70, op := .fieldAddr 4 (.t 1), guard := some (69, true) }, { dst := some 71, op := .load false 1 (.t 70), guard := some (69, true) }, { dst := some 72, op := .lenR (.t 71), guard := some (69, true) }, { dst := some 73, op := .call n_syntax_within [(.t 72), (.c (.d (.int .i64 1))), (.c (.d (.int .i64 8)))], guard := some (69, true) }, { dst := some 74, op := .pick (.t 69) (.t 73) (.c (.d (.bool false))), guard := some (67, true) }, { dst := some 75, op := .move (.t 74), guard := some (67, true) }, { dst := some 76, op := .fieldAddr 4 (.t 1), guard := some (75, true) }, { dst := some 77, op := .load false 1 (.t 76), guard := some (75, true) }, { dst := some 78, op := .call n_syntax_Free [(.t 77)], guard := some (75, true) }, { dst := some 79, op := .pick (.t 75) (.t 78) (.c (.d (.bool false))), guard := some (67, true) }, { dst := some 80, op := .move (.t 79), guard := some (67, true) }, { dst := some 81, op := .fieldAddr 4 (.t 1), guard := some (80, true) }, { dst := some 82, op := .load false 1 (.t 81), guard := some (80, true) }, { dst := some 83, op := .call n_syntax_unlike [(.t 82)], guard := some (80, true) }, { dst := some 84, op := .pick (.t 80) (.t 83) (.c (.d (.bool false))), guard := some (67, true) }, { dst := some 85, op := .move (.t 84), guard := some (67, true) }, { dst := some 86, op := .move (.t 4), guard := some (85, false) }, { dst := some 87, op := .not (.t 86), guard := some (85, false) }, { dst := some 88, op := .move (.t 87), guard := some (85, false) }, { dst := some 89, op := .fieldAddr 4 (.t 1), guard := some (88, true) }, { dst := some 90, op := .load false 1 (.t 89), guard := some (88, true) }, { dst := some 91, op := .lenR (.t 90), guard := some (88, true) }, { dst := some 92, op := .bin .eql (.t 91) (.c (.d (.int .i64 0))), guard := some (88, true) }, { dst := some 93, op := .pick (.t 88) (.t 92) (.c (.d (.bool false))), guard := some (85, false) }, { dst := some 94, op := .pick (.t 85) (.c (.d (.bool true))) (.t 93), guard := some (67, true) }, { dst := some 95, op := .pick (.t 67) (.t 94) (.c (.d (.bool false))) }]
def x_syntax_shape_r25s4 : List XI := [{ dst := some 96, op := .move (.t 95) }, { dst := some 97, op := .move (.t 5), guard := some (96, true) }, { dst := some 98, op := .move (.t 97), guard := some (96, true) }, { dst := some 99, op := .fieldAddr 3 (.t 1), guard := some (98, true) }, { dst := some 100, op := .load false 1 (.t 99), guard := some (98, true) }, { dst := some 101, op := .call n_syntax_within [(.t 100), (.c (.d (.int .i64 0))), (.c (.d (.int .i64 1000)))], guard := some (98, true) }, { dst := some 102, op := .pick (.t 98) (.t 101) (.c (.d (.bool false))), guard := some (96, true) }, { dst := some 103, op := .move (.t 102), guard := some (96, true) }, { dst := some 104, op := .move (.t 5), guard := some (103, false) }, { dst := some 105, op := .not (.t 104), guard := some (103, false) }, { dst := some 106, op := .move (.t 105), guard := some (103, false) }, { dst := some 107, op := .fieldAddr 3 (.t 1), guard := some (106, true) }, { dst := some 108, op := .load false 1 (.t 107), guard := some (106, true) }, { dst := some 109, op := .bin .eql (.t 108) (.c (.d (.int .i64 0))), guard := some (106, true) }, { dst := some 110, op := .pick (.t 106) (.t 109) (.c (.d (.bool false))), guard := some (103, false) }, { dst := some 111, op := .pick (.t 103) (.c (.d (.bool true))) (.t 110), guard := some (96, true) }, { dst := some 112, op := .pick (.t 96) (.t 111) (.c (.d (.bool false))) }]
def x_syntax_shape_r25s5 : List XI := [{ dst := some 113, op := .move (.t 112) }, { dst := some 114, op := .fieldAddr 5 (.t 1), guard := some (113, true) }, { dst := some 115, op := .load false 1 (.t 114), guard := some (113, true) }, { dst := some 116, op := .lenR (.t 115), guard := some (113, true) }, { dst := some 117, op := .move (.t 8), guard := some (113, true) }, { dst := some 118, op := .move (.t 9), guard := some (113, true) }, { dst := some 119, op := .call n_syntax_within [(.t 116), (.t 117), (.t 118)], guard := some (113, true) }, { dst := some 120, op := .pick (.t 113) (.t 119) (.c (.d (.bool false))) }]
def x_syntax_shape_r25s6 : List XI := [{ dst := some 121, op := .move (.t 120) }, { dst := some 122, op := .move (.t 6), guard := some (121, true) }, { dst := some 123, op := .move (.t 122), guard := some (121, true) }, { dst := some 124, op := .fieldAddr 6 (.t 1), guard := some (123, false) }, { dst := some 125, op := .load false 1 (.t 124), guard := some (123, false) }, { dst := some 126, op := .lenR (.t 125), guard := some (123, false) }, { dst := some 127, op := .bin .eql (.t 126) (.c (.d (.int .i64 0))), guard := some (123, false) }, { dst := some 128, op := .pick (.t 123) (.c (.d (.bool true))) (.t 127), guard := some (121, true) }, { dst := some 129, op := .pick (.t 121) (.t 128) (.c (.d (.bool false))) }]
def x_syntax_shape_r25s7 : List XI := [{ dst := some 130, op := .move (.t 129) }, { dst := some 131, op := .move (.t 7), guard := some (130, true) }, { dst := some 132, op := .move (.t 131), guard := some (130, true) }, { dst := some 133, op := .fieldAddr 7 (.t 1), guard := some (132, false) }, { dst := some 134, op := .load false 1 (.t 133), guard := some (132, false) }, { dst := some 135, op := .lenR (.t 134), guard := some (132, false) }, { dst := some 136, op := .bin .eql (.t 135) (.c (.d (.int .i64 0))), guard := some (132, false) }, { dst := some 137, op := .pick (.t 132) (.c (.d (.bool true))) (.t 136), guard := some (130, true) }, { dst := some 138, op := .pick (.t 130) (.t 137) (.c (.d (.bool false))) }]
def x_syntax_shape_r25s8 : List XI := [{ dst := some 2, op := .move (.t 138) }]
def x_syntax_shape_r25 : List XI := x_syntax_shape_r25s0 ++ (x_syntax_shape_r25s1 ++ (x_syntax_shape_r25s2 ++ (x_syntax_shape_r25s3 ++ (x_syntax_shape_r25s4 ++ (x_syntax_shape_r25s5 ++ (x_syntax_shape_r25s6 ++ (x_syntax_shape_r25s7 ++ (x_syntax_shape_r25s8))))))))
def x_syntax_shape : XC :=
 (.seq (.region x_syntax_shape_r0)
 (.seq (.region x_syntax_shape_r1)
 (.seq (.region x_syntax_shape_r2)
 (.seq (.region x_syntax_shape_r3)
 (.seq (.seq (.region x_syntax_shape_r4)
 (.block 0 (.seq (.seq (.region x_syntax_shape_r5)
 (.cond (.t 13)
 .skip
 (.region x_syntax_shape_r6)))
 (.cond (.t 13)
 (.region x_syntax_shape_r7)
 (.seq (.seq (.region x_syntax_shape_r8)
 (.cond (.t 16)
 .skip
 (.region x_syntax_shape_r9)))
 (.cond (.t 16)
 (.region x_syntax_shape_r10)
 (.seq (.region x_syntax_shape_r11)
 (.cond (.t 19)
 (.seq (.region x_syntax_shape_r12)
 (.regionS x_syntax_shape_r13 0))
 (.seq (.region x_syntax_shape_r14)
 (.cond (.t 29)
 (.region x_syntax_shape_r15)
 (.seq (.region x_syntax_shape_r16)
 (.cond (.t 31)
 (.region x_syntax_shape_r17)
 (.seq (.region x_syntax_shape_r18)
 (.cond (.t 33)
 (.region x_syntax_shape_r19)
 (.seq (.region x_syntax_shape_r20)
 (.cond (.t 35)
 (.region x_syntax_shape_r21)
 (.seq (.region x_syntax_shape_r22)
 (.cond (.t 37)
 (.region x_syntax_shape_r23)
 (.seq (.region x_syntax_shape_r24)
 .ret)))))))))))))))))))
 (.seq (.region x_syntax_shape_r25)
 .ret))))))
theorem F_syntax_shape : Fn PR n_syntax_shape 139 x_syntax_shape [.tmp 2] := ⟨fun vs w => Try.call71 vs w, Try.f71, _, Try.func71, rfl, rfl, by kernel_rfl, by kernel_rfl⟩

def x_slices_ContainsFunc_api_Expr_api_Expr_r0 : List XI := [{ dst := some 4, op := .move (.c (.d (.bool false))) }]
def x_slices_ContainsFunc_api_Expr_api_Expr_r1 : List XI := [{ dst := some 5, op := .move (.t 0) }, { dst := some 6, op := .move (.t 1) }, { dst := some 7, op := .call n_slices_IndexFunc_api_Expr_api_Expr [(.t 5), (.t 6)] }, { dst := some 8, op := .bin .geq (.t 7) (.c (.d (.int .i64 0))) }, { dst := some 4, op := .move (.t 8) }]
def x_slices_ContainsFunc_api_Expr_api_Expr : XC :=
 (.seq (.region x_slices_ContainsFunc_api_Expr_api_Expr_r0)
 (.seq (.region x_slices_ContainsFunc_api_Expr_api_Expr_r1)
 .ret))
theorem F_slices_ContainsFunc_api_Expr_api_Expr : Fn PR n_slices_ContainsFunc_api_Expr_api_Expr 9 x_slices_ContainsFunc_api_Expr_api_Expr [.tmp 4] := ⟨fun vs w => Try.call72 vs w, Try.f72, _, Try.func72, rfl, rfl, by kernel_rfl, by kernel_rfl⟩

def x_syntax_built_1_r0 : List XI := [{ dst := some 1, op := .box (.t 0) }, { dst := some 2, op := .move (.c (.d (.bool false))) }]
def x_syntax_built_1_r1 : List XI := [{ dst := some 3, op := .load true 6 (.t 1) }, { dst := some 4, op := .call n_syntax_builtExpr [(.t 3)] }, { dst := some 5, op := .not (.t 4) }, { dst := some 2, op := .move (.t 5) }]
def x_syntax_built_1 : XC :=
 (.seq (.region x_syntax_built_1_r0)
 (.seq (.region x_syntax_built_1_r1)
 .ret))
theorem F_syntax_built_1 : Fn PR n_syntax_built_1 6 x_syntax_built_1 [.tmp 2] := ⟨fun vs w => Try.call73 vs w, Try.f73, _, Try.func73, rfl, rfl, by kernel_rfl, by kernel_rfl⟩

def x_syntax_builtExpr_r0 : List XI := [{ dst := some 1, op := .box (.t 0) }, { dst := some 2, op := .move (.c (.d (.bool false))) }]
def x_syntax_builtExpr_r1 : List XI := [{ dst := some 6, op := .fieldAddr 0 (.t 1) }, { dst := some 7, op := .load false 1 (.t 6) }, { dst := some 8, op := .call n_syntax_args [(.t 7)] }, { dst := some 5, op := .move (.t 8) }, { dst := some 9, op := .extract (.t 5) 0 }, { dst := some 10, op := .extract (.t 5) 1 }, { dst := some 3, op := .move (.t 9) }, { dst := some 4, op := .move (.t 10) }]
def x_syntax_builtExpr_r2s0 : List XI := [{ dst := some 11, op := .move (.t 3) }, { dst := some 12, op := .fieldAddr 5 (.t 1) }, { dst := some 13, op := .load false 1 (.t 12) }, { dst := some 14, op := .lenR (.t 13) }, { dst := some 15, op := .bin .eql (.t 11) (.t 14) }, { dst := some 16, op := .move (.t 15) }, { dst := some 17, op := .load true 6 (.t 1), guard := some (16, true) }, { dst := some 18, op := .call n_syntax_fields [(.t 17)], guard := some (16, true) }, { dst := some 19, op := .pick (.t 16) (.t 18) (.c (.d (.bool false))) }]
def x_syntax_builtExpr_r2s1 : List XI := [{ dst := some 20, op := .move (.t 19) }, { dst := some 21, op := .fieldAddr 5 (.t 1), guard := some (20, true) }, { dst := some 22, op := .load false 1 (.t 21), guard := some (20, true) }, { dst := some 23, op := .call n_slices_ContainsFunc_api_Expr_api_Expr [(.t 22), (.c (.fn n_syntax_builtExpr_1 [] []))], guard := some (20, true) }, { dst := some 24, op := .not (.t 23), guard := some (20, true) }, { dst := some 25, op := .pick (.t 20) (.t 24) (.c (.d (.bool false))) }]
def x_syntax_builtExpr_r2s2 : List XI := [{ dst := some 2, op := .move (.t 25) }]
def x_syntax_builtExpr_r2 : List XI := x_syntax_builtExpr_r2s0 ++ (x_syntax_builtExpr_r2s1 ++ (x_syntax_builtExpr_r2s2))
def x_syntax_builtExpr : XC :=
 (.seq (.region x_syntax_builtExpr_r0)
 (.seq (.region x_syntax_builtExpr_r1)
 (.seq (.region x_syntax_builtExpr_r2)
 .ret)))
theorem F_syntax_builtExpr : Fn PR n_syntax_builtExpr 26 x_syntax_builtExpr [.tmp 2] := ⟨fun vs w => Try.call74 vs w, Try.f74, _, Try.func74, rfl, rfl, by kernel_rfl, by kernel_rfl⟩

def x_syntax_args_r0 : List XI := [{ dst := some 2, op := .move (.c (.d (.int .i64 0))) }, { dst := some 3, op := .move (.c (.d (.bool false))) }]
def x_syntax_args_r1s0 : List XI := [{ dst := some 5, op := .move (.t 0) }, { dst := some 6, op := .bin .geq (.t 5) (.c (.d (.int .i64 1))) }, { dst := some 7, op := .move (.t 6) }, { dst := some 8, op := .move (.t 0), guard := some (7, true) }, { dst := some 9, op := .bin .leq (.t 8) (.c (.d (.int .i64 5))), guard := some (7, true) }, { dst := some 10, op := .pick (.t 7) (.t 9) (.c (.d (.bool false))) }]
def x_syntax_args_r1s1 : List XI := [{ dst := some 4, op := .move (.t 10) }]
def x_syntax_args_r1 : List XI := x_syntax_args_r1s0 ++ (x_syntax_args_r1s1)
def x_syntax_args_r2 : List XI := [{ dst := some 2, op := .move (.c (.d (.int .i64 0))) }, { dst := some 3, op := .move (.c (.d (.bool false))) }]
def x_syntax_args_r3s0 : List XI := [{ dst := some 12, op := .move (.t 0) }, { dst := some 13, op := .bin .geq (.t 12) (.c (.d (.int .i64 6))) }, { dst := some 14, op := .move (.t 13) }, { dst := some 15, op := .move (.t 0), guard := some (14, true) }, { dst := some 16, op := .bin .leq (.t 15) (.c (.d (.int .i64 18))), guard := some (14, true) }, { dst := some 17, op := .pick (.t 14) (.t 16) (.c (.d (.bool false))) }]
def x_syntax_args_r3s1 : List XI := [{ dst := some 11, op := .move (.t 17) }]
def x_syntax_args_r3 : List XI := x_syntax_args_r3s0 ++ (x_syntax_args_r3s1)
def x_syntax_args_r4 : List XI := [{ dst := some 2, op := .move (.c (.d (.int .i64 2))) }, { dst := some 3, op := .move (.c (.d (.bool false))) }]
def x_syntax_args_r5s0 : List XI := [{ dst := some 19, op := .move (.t 0) }, { dst := some 20, op := .bin .eql (.t 19) (.c (.d (.int .i64 19))) }, { dst := some 21, op := .move (.t 20) }, { dst := some 22, op := .move (.t 0), guard := some (21, false) }, { dst := some 23, op := .bin .eql (.t 22) (.c (.d (.int .i64 20))), guard := some (21, false) }, { dst := some 24, op := .pick (.t 21) (.c (.d (.bool true))) (.t 23) }]
def x_syntax_args_r5s1 : List XI := [{ dst := some 18, op := .move (.t 24) }]
def x_syntax_args_r5 : List XI := x_syntax_args_r5s0 ++ (x_syntax_args_r5s1)
def x_syntax_args_r6 : List XI := [{ dst := some 2, op := .move (.c (.d (.int .i64 1))) }, { dst := some 3, op := .move (.c (.d (.bool false))) }]
def x_syntax_args_r7 : List XI := [{ dst := some 26, op := .move (.t 0) }, { dst := some 27, op := .bin .eql (.t 26) (.c (.d (.int .i64 21))) }, { dst := some 25, op := .move (.t 27) }]
def x_syntax_args_r8 : List XI := [{ dst := some 2, op := .move (.c (.d (.int .i64 1))) }, { dst := some 3, op := .move (.c (.d (.bool true))) }]
def x_syntax_args_r9s0 : List XI := [{ dst := some 29, op := .move (.t 0) }, { dst := some 30, op := .bin .geq (.t 29) (.c (.d (.int .i64 22))) }, { dst := some 31, op := .move (.t 30) }, { dst := some 32, op := .move (.t 0), guard := some (31, true) }, { dst := some 33, op := .bin .leq (.t 32) (.c (.d (.int .i64 24))), guard := some (31, true) }, { dst := some 34, op := .pick (.t 31) (.t 33) (.c (.d (.bool false))) }]
def x_syntax_args_r9s1 : List XI := [{ dst := some 28, op := .move (.t 34) }]
def x_syntax_args_r9 : List XI := x_syntax_args_r9s0 ++ (x_syntax_args_r9s1)
def x_syntax_args_r10 : List XI := [{ dst := some 2, op := .move (.c (.d (.int .i64 2))) }, { dst := some 3, op := .move (.c (.d (.bool true))) }]
def x_syntax_args_r11 : List XI := [{ dst := some 2, op := .move (.c (.d (.int .i64 (-1)))) }, { dst := some 3, op := .move (.c (.d (.bool false))) }]
def x_syntax_args : XC :=
 (.seq (.region x_syntax_args_r0)
 (.seq (.block 0 (.seq (.region x_syntax_args_r1)
 (.cond (.t 4)
 (.seq (.region x_syntax_args_r2)
 .ret)
 (.seq (.region x_syntax_args_r3)
 (.cond (.t 11)
 (.seq (.region x_syntax_args_r4)
 .ret)
 (.seq (.region x_syntax_args_r5)
 (.cond (.t 18)
 (.seq (.region x_syntax_args_r6)
 .ret)
 (.seq (.region x_syntax_args_r7)
 (.cond (.t 25)
 (.seq (.region x_syntax_args_r8)
 .ret)
 (.seq (.region x_syntax_args_r9)
 (.cond (.t 28)
 (.seq (.region x_syntax_args_r10)
 .ret)
 .skip)))))))))))
 (.seq (.region x_syntax_args_r11)
 .ret)))
theorem F_syntax_args : Fn PR n_syntax_args 35 x_syntax_args [.tmp 2, .tmp 3] := ⟨fun vs w => Try.call86 vs w, Try.f86, _, Try.func86, rfl, rfl, by kernel_rfl, by kernel_rfl⟩

def x_syntax_has_r0 : List XI := [{ dst := some 4, op := .move (.c (.ex [])) }]
def x_syntax_has_r1 : List XI := [{ dst := some 5, op := .move (.t 0) }, { dst := some 6, op := .not (.t 5) }]
def x_syntax_has_r2 : List XI := [{ dst := some 4, op := .move (.c (.ex [])) }]
def x_syntax_has_r3 : List XI := [{ dst := some 7, op := .move (.t 1) }, { dst := some 8, op := .buildSlice 1 [(.t 7)] }, { dst := some 4, op := .move (.t 8) }]
def x_syntax_has : XC :=
 (.seq (.region x_syntax_has_r0)
 (.seq (.seq (.region x_syntax_has_r1)
 (.cond (.t 6)
 (.seq (.region x_syntax_has_r2)
 .ret)
 .skip))
 (.seq (.region x_syntax_has_r3)
 .ret)))
theorem F_syntax_has : Fn PR n_syntax_has 9 x_syntax_has [.tmp 4] := ⟨fun vs w => Try.call88 vs w, Try.f88, _, Try.func88, rfl, rfl, by kernel_rfl, by kernel_rfl⟩

def x_slices_IndexFunc_api_Expr_api_Expr_r0 : List XI := [{ dst := some 4, op := .move (.c (.d (.int .i64 0))) }]
def x_slices_IndexFunc_api_Expr_api_Expr_r1 : List XI := [{ dst := some 6, op := .move (.t 0) }, { dst := some 7, op := .lenR (.t 6) }, { dst := some 8, op := .move (.c (.d (.int .i64 0))) }]
def x_slices_IndexFunc_api_Expr_api_Expr_r2 : List XI := [{ dst := some 9, op := .bin .lss (.t 8) (.t 7) }]
def x_slices_IndexFunc_api_Expr_api_Expr_r3 : List XI := [{ dst := some 10, op := .move (.t 8) }, { dst := some 5, op := .move (.t 10) }]
def x_slices_IndexFunc_api_Expr_api_Expr_r4 : List XI := [{ dst := some 11, op := .move (.t 1) }, { dst := some 12, op := .move (.t 0) }, { dst := some 13, op := .move (.t 5) }, { dst := some 14, op := .indexAddr 6 (.t 12) (.t 13) }, { dst := some 15, op := .load true 6 (.t 14) }, { dst := some 16, op := .dyn (.t 11) [(.t 15)] }]
def x_slices_IndexFunc_api_Expr_api_Expr_r5 : List XI := [{ dst := some 17, op := .move (.t 5) }, { dst := some 4, op := .move (.t 17) }]
def x_slices_IndexFunc_api_Expr_api_Expr_r6 : List XI := [{ dst := some 18, op := .bin .add (.t 8) (.c (.d (.int .i64 1))) }, { dst := some 8, op := .move (.t 18) }]
def x_slices_IndexFunc_api_Expr_api_Expr_l7 : XC :=
 (.seq (.region x_slices_IndexFunc_api_Expr_api_Expr_r2)
 (.seq (.cond (.t 9)
 .skip
 (.exit 0))
 (.seq (.block 1 (.seq (.region x_slices_IndexFunc_api_Expr_api_Expr_r3)
 (.seq (.region x_slices_IndexFunc_api_Expr_api_Expr_r4)
 (.cond (.t 16)
 (.seq (.region x_slices_IndexFunc_api_Expr_api_Expr_r5)
 .ret)
 .skip))))
 (.region x_slices_IndexFunc_api_Expr_api_Expr_r6))))
def x_slices_IndexFunc_api_Expr_api_Expr_r8 : List XI := [{ dst := some 4, op := .move (.c (.d (.int .i64 (-1)))) }]
def x_slices_IndexFunc_api_Expr_api_Expr : XC :=
 (.seq (.region x_slices_IndexFunc_api_Expr_api_Expr_r0)
 (.seq (.seq (.region x_slices_IndexFunc_api_Expr_api_Expr_r1)
 (.block 0 (.loop x_slices_IndexFunc_api_Expr_api_Expr_l7)))
 (.seq (.region x_slices_IndexFunc_api_Expr_api_Expr_r8)
 .ret)))
theorem F_slices_IndexFunc_api_Expr_api_Expr : Fn PR n_slices_IndexFunc_api_Expr_api_Expr 19 x_slices_IndexFunc_api_Expr_api_Expr [.tmp 4] := ⟨fun vs w => Try.call89 vs w, Try.f89, _, Try.func89, rfl, rfl, by kernel_rfl, by kernel_rfl⟩

def x_syntax_fields_r0 : List XI := [{ dst := some 1, op := .box (.t 0) }, { dst := some 2, op := .move (.c (.d (.bool false))) }]
def x_syntax_fields_r1 : List XI := [{ dst := some 8, op := .fieldAddr 0 (.t 1) }, { dst := some 9, op := .load false 1 (.t 8) }, { dst := some 10, op := .call n_syntax_args [(.t 9)] }, { dst := some 7, op := .move (.t 10) }, { dst := some 11, op := .extract (.t 7) 0 }, { dst := some 12, op := .extract (.t 7) 1 }, { dst := some 3, op := .move (.t 11) }, { dst := some 4, op := .move (.t 12) }]
def x_syntax_fields_r2 : List XI := [{ dst := some 5, op := .move (.c (.d (.bool false))) }]
def x_syntax_fields_r3 : List XI := [{ dst := some 6, op := .alloc [(.d (.int .i64 0)), (.d (.int .i64 0)), (.d (.str ⟨#[]⟩)), (.d (.str ⟨#[]⟩)), (.d (.str ⟨#[]⟩)), (.ex [])] }]
def x_syntax_fields_r4 : List XI := [{ dst := some 14, op := .fieldAddr 0 (.t 1) }, { dst := some 15, op := .load false 1 (.t 14) }, { dst := some 16, op := .bin .eql (.t 15) (.c (.d (.int .i64 1))) }, { dst := some 13, op := .move (.t 16) }]
def x_syntax_fields_r5 : List XI := [{ dst := some 17, op := .fieldAddr 1 (.t 1) }, { dst := some 18, op := .load false 1 (.t 17) }, { dst := some 19, op := .bin .geq (.t 18) (.c (.d (.int .i64 0))) }, { dst := some 20, op := .fieldAddr 1 (.t 1) }, { dst := some 21, op := .load false 1 (.t 20) }, { dst := some 5, op := .move (.t 19) }, { dst := some 22, op := .fieldAddr 1 (.t 6) }, { dst := none, op := .store 1 (.t 22) (.t 21) }]
def x_syntax_fields_r6 : List XI := [{ dst := some 24, op := .fieldAddr 0 (.t 1) }, { dst := some 25, op := .load false 1 (.t 24) }, { dst := some 26, op := .bin .eql (.t 25) (.c (.d (.int .i64 2))) }, { dst := some 23, op := .move (.t 26) }]
def x_syntax_fields_r7 : List XI := [{ dst := some 27, op := .fieldAddr 2 (.t 1) }, { dst := some 28, op := .load false 1 (.t 27) }, { dst := some 29, op := .lenS (.t 28) }, { dst := some 30, op := .bin .leq (.t 29) (.c (.d (.int .i64 200))) }, { dst := some 31, op := .fieldAddr 2 (.t 1) }, { dst := some 32, op := .load false 1 (.t 31) }, { dst := some 5, op := .move (.t 30) }, { dst := some 33, op := .fieldAddr 2 (.t 6) }, { dst := none, op := .store 1 (.t 33) (.t 32) }]
def x_syntax_fields_r8 : List XI := [{ dst := some 35, op := .fieldAddr 0 (.t 1) }, { dst := some 36, op := .load false 1 (.t 35) }, { dst := some 37, op := .bin .eql (.t 36) (.c (.d (.int .i64 3))) }, { dst := some 34, op := .move (.t 37) }]
def x_syntax_fields_r9 : List XI := [{ dst := some 38, op := .fieldAddr 1 (.t 1) }, { dst := some 39, op := .load false 1 (.t 38) }, { dst := some 40, op := .bin .shr (.t 39) (.c (.d (.int .u64 1))) }, { dst := some 41, op := .bin .eql (.t 40) (.c (.d (.int .i64 0))) }, { dst := some 42, op := .fieldAddr 1 (.t 1) }, { dst := some 43, op := .load false 1 (.t 42) }, { dst := some 5, op := .move (.t 41) }, { dst := some 44, op := .fieldAddr 1 (.t 6) }, { dst := none, op := .store 1 (.t 44) (.t 43) }]
def x_syntax_fields_r10 : List XI := [{ dst := some 46, op := .fieldAddr 0 (.t 1) }, { dst := some 47, op := .load false 1 (.t 46) }, { dst := some 48, op := .bin .eql (.t 47) (.c (.d (.int .i64 4))) }, { dst := some 45, op := .move (.t 48) }]
def x_syntax_fields_r11 : List XI := [{ dst := some 49, op := .fieldAddr 3 (.t 1) }, { dst := some 50, op := .load false 1 (.t 49) }, { dst := some 51, op := .buildSlice 1 [(.t 50)] }, { dst := some 52, op := .call n_syntax_Free [(.t 51)] }, { dst := some 53, op := .fieldAddr 3 (.t 1) }, { dst := some 54, op := .load false 1 (.t 53) }, { dst := some 5, op := .move (.t 52) }, { dst := some 55, op := .fieldAddr 3 (.t 6) }, { dst := none, op := .store 1 (.t 55) (.t 54) }]
def x_syntax_fields_r12 : List XI := [{ dst := some 57, op := .fieldAddr 0 (.t 1) }, { dst := some 58, op := .load false 1 (.t 57) }, { dst := some 59, op := .bin .eql (.t 58) (.c (.d (.int .i64 5))) }, { dst := some 56, op := .move (.t 59) }]
def x_syntax_fields_r13 : List XI := [{ dst := some 60, op := .fieldAddr 3 (.t 1) }, { dst := some 61, op := .load false 1 (.t 60) }, { dst := some 62, op := .fieldAddr 2 (.t 1) }, { dst := some 63, op := .load false 1 (.t 62) }, { dst := some 64, op := .buildSlice 1 [(.t 61), (.t 63)] }, { dst := some 65, op := .call n_syntax_Free [(.t 64)] }, { dst := some 66, op := .fieldAddr 3 (.t 1) }, { dst := some 67, op := .load false 1 (.t 66) }, { dst := some 68, op := .fieldAddr 2 (.t 1) }, { dst := some 69, op := .load false 1 (.t 68) }, { dst := some 5, op := .move (.t 65) }, { dst := some 70, op := .fieldAddr 3 (.t 6) }, { dst := none, op := .store 1 (.t 70) (.t 67) }, { dst := some 71, op := .fieldAddr 2 (.t 6) }, { dst := none, op := .store 1 (.t 71) (.t 69) }]
def x_syntax_fields_r14 : List XI := [{ dst := some 73, op := .move (.t 4) }, { dst := some 72, op := .move (.t 73) }]
def x_syntax_fields_r15 : List XI := [{ dst := some 74, op := .fieldAddr 3 (.t 1) }, { dst := some 75, op := .load false 1 (.t 74) }, { dst := some 76, op := .fieldAddr 4 (.t 1) }, { dst := some 77, op := .load false 1 (.t 76) }, { dst := some 78, op := .buildSlice 1 [(.t 75), (.t 77)] }, { dst := some 79, op := .call n_syntax_Free [(.t 78)] }, { dst := some 80, op := .fieldAddr 3 (.t 1) }, { dst := some 81, op := .load false 1 (.t 80) }, { dst := some 82, op := .fieldAddr 4 (.t 1) }, { dst := some 83, op := .load false 1 (.t 82) }, { dst := some 5, op := .move (.t 79) }, { dst := some 84, op := .fieldAddr 3 (.t 6) }, { dst := none, op := .store 1 (.t 84) (.t 81) }, { dst := some 85, op := .fieldAddr 4 (.t 6) }, { dst := none, op := .store 1 (.t 85) (.t 83) }]
def x_syntax_fields_r16 : List XI := [{ dst := some 5, op := .move (.c (.d (.bool true))) }]
def x_syntax_fields_r17s0 : List XI := [{ dst := some 86, op := .move (.t 5) }, { dst := some 87, op := .move (.t 86) }, { dst := some 88, op := .fieldAddr 1 (.t 6), guard := some (87, true) }, { dst := some 89, op := .load false 1 (.t 88), guard := some (87, true) }, { dst := some 90, op := .fieldAddr 1 (.t 1), guard := some (87, true) }, { dst := some 91, op := .load false 1 (.t 90), guard := some (87, true) }, { dst := some 92, op := .bin .eql (.t 89) (.t 91), guard := some (87, true) }, { dst := some 93, op := .pick (.t 87) (.t 92) (.c (.d (.bool false))) }]
def x_syntax_fields_r17s1 : List XI := [{ dst := some 94, op := .move (.t 93) }, { dst := some 95, op := .fieldAddr 2 (.t 6), guard := some (94, true) }, { dst := some 96, op := .load false 1 (.t 95), guard := some (94, true) }, { dst := some 97, op := .fieldAddr 2 (.t 1), guard := some (94, true) }, { dst := some 98, op := .load false 1 (.t 97), guard := some (94, true) }, { dst := some 99, op := .bin .eql (.t 96) (.t 98), guard := some (94, true) }, { dst := some 100, op := .pick (.t 94) (.t 99) (.c (.d (.bool false))) }]
def x_syntax_fields_r17s2 : List XI := [{ dst := some 101, op := .move (.t 100) }, { dst := some 102, op := .fieldAddr 3 (.t 6), guard := some (101, true) }, { dst := some 103, op := .load false 1 (.t 102), guard := some (101, true) }, { dst := some 104, op := .fieldAddr 3 (.t 1), guard := some (101, true) }, { dst := some 105, op := .load false 1 (.t 104), guard := some (101, true) }, { dst := some 106, op := .bin .eql (.t 103) (.t 105), guard := some (101, true) }, { dst := some 107, op := .pick (.t 101) (.t 106) (.c (.d (.bool false))) }]
def x_syntax_fields_r17s3 : List XI := [{ dst := some 108, op := .move (.t 107) }, { dst := some 109, op := .fieldAddr 4 (.t 6), guard := some (108, true) }, { dst := some 110, op := .load false 1 (.t 109), guard := some (108, true) }, { dst := some 111, op := .fieldAddr 4 (.t 1), guard := some (108, true) }, { dst := some 112, op := .load false 1 (.t 111), guard := some (108, true) }, { dst := some 113, op := .bin .eql (.t 110) (.t 112), guard := some (108, true) }, { dst := some 114, op := .pick (.t 108) (.t 113) (.c (.d (.bool false))) }]
def x_syntax_fields_r17s4 : List XI := [{ dst := some 2, op := .move (.t 114) }]
def x_syntax_fields_r17 : List XI := x_syntax_fields_r17s0 ++ (x_syntax_fields_r17s1 ++ (x_syntax_fields_r17s2 ++ (x_syntax_fields_r17s3 ++ (x_syntax_fields_r17s4))))
def x_syntax_fields : XC :=
 (.seq (.region x_syntax_fields_r0)
 (.seq (.region x_syntax_fields_r1)
 (.seq (.region x_syntax_fields_r2)
 (.seq (.region x_syntax_fields_r3)
 (.seq (.block 0 (.seq (.region x_syntax_fields_r4)
 (.cond (.t 13)
 (.regionS x_syntax_fields_r5 0)
 (.seq (.region x_syntax_fields_r6)
 (.cond (.t 23)
 (.regionS x_syntax_fields_r7 0)
 (.seq (.region x_syntax_fields_r8)
 (.cond (.t 34)
 (.regionS x_syntax_fields_r9 0)
 (.seq (.region x_syntax_fields_r10)
 (.cond (.t 45)
 (.regionD x_syntax_fields_r11 [[], [0], [1, 0], [2, 1, 0], [], [4], [3, 2, 1, 0], [0, 1, 2, 3, 4, 5, 6], [7, 0, 1, 2, 3, 4, 5, 6]] 1)
 (.seq (.region x_syntax_fields_r12)
 (.cond (.t 56)
 (.regionD x_syntax_fields_r13 [[], [0], [], [2], [1, 0, 3, 2], [4, 1, 0, 3, 2], [], [6], [], [8], [5, 4, 1, 0, 3, 2], [0, 1, 2, 3, 4, 5, 6, 7, 10], [11, 0, 1, 2, 3, 4, 5, 6, 7, 10], [0, 1, 2, 3, 4, 5, 6, 7, 8, 9, 10, 11, 12], [13, 0, 1, 2, 3, 4, 5, 6, 7, 8, 9, 10, 11, 12]] 1)
 (.seq (.region x_syntax_fields_r14)
 (.cond (.t 72)
 (.regionD x_syntax_fields_r15 [[], [0], [], [2], [1, 0, 3, 2], [4, 1, 0, 3, 2], [], [6], [], [8], [5, 4, 1, 0, 3, 2], [0, 1, 2, 3, 4, 5, 6, 7, 10], [11, 0, 1, 2, 3, 4, 5, 6, 7, 10], [0, 1, 2, 3, 4, 5, 6, 7, 8, 9, 10, 11, 12], [13, 0, 1, 2, 3, 4, 5, 6, 7, 8, 9, 10, 11, 12]] 1)
 (.region x_syntax_fields_r16))))))))))))))
 (.seq (.region x_syntax_fields_r17)
 .ret))))))
theorem F_syntax_fields : Fn PR n_syntax_fields 115 x_syntax_fields [.tmp 2] := ⟨fun vs w => Try.call90 vs w, Try.f90, _, Try.func90, rfl, rfl, by kernel_rfl, by kernel_rfl⟩

def x_syntax_builtExpr_1_r0 : List XI := [{ dst := some 1, op := .box (.t 0) }, { dst := some 2, op := .move (.c (.d (.bool false))) }]
def x_syntax_builtExpr_1_r1 : List XI := [{ dst := some 3, op := .load true 6 (.t 1) }, { dst := some 4, op := .call n_syntax_builtExpr [(.t 3)] }, { dst := some 5, op := .not (.t 4) }, { dst := some 2, op := .move (.t 5) }]
def x_syntax_builtExpr_1 : XC :=
 (.seq (.region x_syntax_builtExpr_1_r0)
 (.seq (.region x_syntax_builtExpr_1_r1)
 .ret))
theorem F_syntax_builtExpr_1 : Fn PR n_syntax_builtExpr_1 6 x_syntax_builtExpr_1 [.tmp 2] := ⟨fun vs w => Try.call91 vs w, Try.f91, _, Try.func91, rfl, rfl, by kernel_rfl, by kernel_rfl⟩

end Go.Ax
