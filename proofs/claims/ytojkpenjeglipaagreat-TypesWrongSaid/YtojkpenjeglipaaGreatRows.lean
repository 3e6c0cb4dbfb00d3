/-
  NARROWER THAN 'FOR EVERY INPUT', by the rows' own cells (each row's printed sentence says how): TypesWrong: loops · TypesMore: loops.
  DERIVED. THE GIVEN ROWS OF THIS SEAT. 8 by the template 'for every input the law returns true; each argument reads behind the call as it read before'; 0 by the template 'total and deterministic' (their statements: YtojkpenjeglipaaGreatTotals.lean).
  GIVEN WITH THE SEED: the statements are not yours to turn. If you find one false, say at which input.
  Laid BY PROGRAM, IN A SANDBOX (cutbox-rows.mjs): the forced cells as the released guide's own fill.sh prints them over the translation 7b8b4a1c06f626b3… (all of the seat's roots in one cut). By AI agents, Wed Nov 11 2026. No macro, syntax, notation, axiom, sorry.
-/
import Derived.Test.YtojkpenjeglipaaGreatChecked
import GoSem.Claim
import GoSem.ClaimJoined
import GoSem.ClaimMapViews
import Derived.JoinedTies
import Derived.KernelRfl
namespace Go.Proofs.YtojkpenjeglipaaGreat
/- THE CELL 'sum', in the pinned program and in every row, IS THE sha256 OF THE DUMP (.gsa) THAT YtojkpenjeglipaaGreatProg.lean LOADS. Nothing in Lean hashes anything: it is a label: what it is worth is what the hold of that sum in a sandbox is worth. -/
noncomputable def Tryz.pinned : Pinned := { name := "ytojkpenjeglipaagreat", sum := "7b8b4a1c06f626b3fcf664b74ef6a0d64f6dd093e2105f4f706146653958c830", checked := Tryz.checked }
namespace Rows
def none {H : Type} : Left H := { results := [], args := [] }

/-- 'affluxlaw15.TypesWrong': WHATEVER THE INPUT: true; the input reads as it did. -/
def typesWrongSpec : ChangeSpec := { name := "typesWrong", fn := fun _ => fun
  | [d1, d2] => { results := [.lit (.bool true)], args := [d1, d2] }
  | _ => none }
def typesWrongRow : OpenClaim := { program := "ytojkpenjeglipaagreat", sum := "7b8b4a1c06f626b3fcf664b74ef6a0d64f6dd093e2105f4f706146653958c830", func := "afflux/affluxlaw15.TypesWrong", spec := "typesWrong", unfollowed := true, recurses := true, loops := true, apart := false }
def TypesWrongSaid : Prop := typesWrongRow.holds Tryz.pinned (OpenSpec.ofChange typesWrongSpec)

/-- ITS FALSE NEIGHBOUR: 'it returns false'. Refute it at one input. -/
def typesWrongWrong : ChangeSpec := { name := "typesWrong", fn := fun _ => fun
  | [d1, d2] => { results := [.lit (.bool false)], args := [d1, d2] }
  | _ => none }
def TypesWrongWrongFalsely : Prop := typesWrongRow.holds Tryz.pinned (OpenSpec.ofChange typesWrongWrong)

/-- 'affluxlaw15.TypesMore': WHATEVER THE INPUT: true; the input reads as it did. -/
def typesMoreSpec : ChangeSpec := { name := "typesMore", fn := fun _ => fun
  | [d1, d2] => { results := [.lit (.bool true)], args := [d1, d2] }
  | _ => none }
def typesMoreRow : OpenClaim := { program := "ytojkpenjeglipaagreat", sum := "7b8b4a1c06f626b3fcf664b74ef6a0d64f6dd093e2105f4f706146653958c830", func := "afflux/affluxlaw15.TypesMore", spec := "typesMore", unfollowed := true, recurses := true, loops := true, apart := false }
def TypesMoreSaid : Prop := typesMoreRow.holds Tryz.pinned (OpenSpec.ofChange typesMoreSpec)

/-- ITS FALSE NEIGHBOUR: 'it returns false'. Refute it at one input. -/
def typesMoreWrong : ChangeSpec := { name := "typesMore", fn := fun _ => fun
  | [d1, d2] => { results := [.lit (.bool false)], args := [d1, d2] }
  | _ => none }
def TypesMoreWrongFalsely : Prop := typesMoreRow.holds Tryz.pinned (OpenSpec.ofChange typesMoreWrong)

/-- 'affluxlaw20.FlowNets': WHATEVER THE INPUT: true; the input reads as it did. -/
def flowNetsSpec : ChangeSpec := { name := "flowNets", fn := fun _ => fun
  | [d1, d2, d3] => { results := [.lit (.bool true)], args := [d1, d2, d3] }
  | _ => none }
def flowNetsRow : OpenClaim := { program := "ytojkpenjeglipaagreat", sum := "7b8b4a1c06f626b3fcf664b74ef6a0d64f6dd093e2105f4f706146653958c830", func := "afflux/affluxlaw20.FlowNets", spec := "flowNets", unfollowed := true, recurses := true, apart := false }
def FlowNetsSaid : Prop := flowNetsRow.holds Tryz.pinned (OpenSpec.ofChange flowNetsSpec)

/-- ITS FALSE NEIGHBOUR: 'it returns false'. Refute it at one input. -/
def flowNetsWrong : ChangeSpec := { name := "flowNets", fn := fun _ => fun
  | [d1, d2, d3] => { results := [.lit (.bool false)], args := [d1, d2, d3] }
  | _ => none }
def FlowNetsWrongFalsely : Prop := flowNetsRow.holds Tryz.pinned (OpenSpec.ofChange flowNetsWrong)

/-- 'affluxlaw20.FlowMore': WHATEVER THE INPUT: true; the input reads as it did. -/
def flowMoreSpec : ChangeSpec := { name := "flowMore", fn := fun _ => fun
  | [d1, d2, d3] => { results := [.lit (.bool true)], args := [d1, d2, d3] }
  | _ => none }
def flowMoreRow : OpenClaim := { program := "ytojkpenjeglipaagreat", sum := "7b8b4a1c06f626b3fcf664b74ef6a0d64f6dd093e2105f4f706146653958c830", func := "afflux/affluxlaw20.FlowMore", spec := "flowMore", unfollowed := true, recurses := true, apart := false }
def FlowMoreSaid : Prop := flowMoreRow.holds Tryz.pinned (OpenSpec.ofChange flowMoreSpec)

/-- ITS FALSE NEIGHBOUR: 'it returns false'. Refute it at one input. -/
def flowMoreWrong : ChangeSpec := { name := "flowMore", fn := fun _ => fun
  | [d1, d2, d3] => { results := [.lit (.bool false)], args := [d1, d2, d3] }
  | _ => none }
def FlowMoreWrongFalsely : Prop := flowMoreRow.holds Tryz.pinned (OpenSpec.ofChange flowMoreWrong)

/-- 'affluxlaw13.ParseRight': WHATEVER THE INPUT: true; the input reads as it did. -/
def parseRightSpec : ChangeSpec := { name := "parseRight", fn := fun _ => fun
  | [d] => { results := [.lit (.bool true)], args := [d] }
  | _ => none }
def parseRightRow : OpenClaim := { program := "ytojkpenjeglipaagreat", sum := "7b8b4a1c06f626b3fcf664b74ef6a0d64f6dd093e2105f4f706146653958c830", func := "afflux/affluxlaw13.ParseRight", spec := "parseRight", inPlace := ["internal/bytealg.IndexByteString", "math/bits.Add64"], unfollowed := true, recurses := true, apart := false }
def ParseRightSaid : Prop := parseRightRow.holds Tryz.pinned (OpenSpec.ofChange parseRightSpec)

/-- ITS FALSE NEIGHBOUR: 'it returns false'. Refute it at one input. -/
def parseRightWrong : ChangeSpec := { name := "parseRight", fn := fun _ => fun
  | [d] => { results := [.lit (.bool false)], args := [d] }
  | _ => none }
def ParseRightWrongFalsely : Prop := parseRightRow.holds Tryz.pinned (OpenSpec.ofChange parseRightWrong)

/-- 'affluxlaw13.ParseCuts': WHATEVER THE INPUT: true; the input reads as it did. -/
def parseCutsSpec : ChangeSpec := { name := "parseCuts", fn := fun _ => fun
  | [d1, d2] => { results := [.lit (.bool true)], args := [d1, d2] }
  | _ => none }
def parseCutsRow : OpenClaim := { program := "ytojkpenjeglipaagreat", sum := "7b8b4a1c06f626b3fcf664b74ef6a0d64f6dd093e2105f4f706146653958c830", func := "afflux/affluxlaw13.ParseCuts", spec := "parseCuts", inPlace := ["internal/bytealg.IndexByteString", "math/bits.Add64"], unfollowed := true, recurses := true, apart := false }
def ParseCutsSaid : Prop := parseCutsRow.holds Tryz.pinned (OpenSpec.ofChange parseCutsSpec)

/-- ITS FALSE NEIGHBOUR: 'it returns false'. Refute it at one input. -/
def parseCutsWrong : ChangeSpec := { name := "parseCuts", fn := fun _ => fun
  | [d1, d2] => { results := [.lit (.bool false)], args := [d1, d2] }
  | _ => none }
def ParseCutsWrongFalsely : Prop := parseCutsRow.holds Tryz.pinned (OpenSpec.ofChange parseCutsWrong)

/-- 'affluxlaw13.ParseExprs': WHATEVER THE INPUT: true; the input reads as it did. -/
def parseExprsSpec : ChangeSpec := { name := "parseExprs", fn := fun _ => fun
  | [d] => { results := [.lit (.bool true)], args := [d] }
  | _ => none }
def parseExprsRow : OpenClaim := { program := "ytojkpenjeglipaagreat", sum := "7b8b4a1c06f626b3fcf664b74ef6a0d64f6dd093e2105f4f706146653958c830", func := "afflux/affluxlaw13.ParseExprs", spec := "parseExprs", inPlace := ["internal/bytealg.IndexByteString", "math/bits.Add64"], unfollowed := true, recurses := true, apart := false }
def ParseExprsSaid : Prop := parseExprsRow.holds Tryz.pinned (OpenSpec.ofChange parseExprsSpec)

/-- ITS FALSE NEIGHBOUR: 'it returns false'. Refute it at one input. -/
def parseExprsWrong : ChangeSpec := { name := "parseExprs", fn := fun _ => fun
  | [d] => { results := [.lit (.bool false)], args := [d] }
  | _ => none }
def ParseExprsWrongFalsely : Prop := parseExprsRow.holds Tryz.pinned (OpenSpec.ofChange parseExprsWrong)

/-- 'affluxlaw13.ParseLoose': WHATEVER THE INPUT: true; the input reads as it did. -/
def parseLooseSpec : ChangeSpec := { name := "parseLoose", fn := fun _ => fun
  | [d1, d2] => { results := [.lit (.bool true)], args := [d1, d2] }
  | _ => none }
def parseLooseRow : OpenClaim := { program := "ytojkpenjeglipaagreat", sum := "7b8b4a1c06f626b3fcf664b74ef6a0d64f6dd093e2105f4f706146653958c830", func := "afflux/affluxlaw13.ParseLoose", spec := "parseLoose", inPlace := ["internal/bytealg.IndexByteString", "math/bits.Add64"], unfollowed := true, recurses := true, apart := false }
def ParseLooseSaid : Prop := parseLooseRow.holds Tryz.pinned (OpenSpec.ofChange parseLooseSpec)

/-- ITS FALSE NEIGHBOUR: 'it returns false'. Refute it at one input. -/
def parseLooseWrong : ChangeSpec := { name := "parseLoose", fn := fun _ => fun
  | [d1, d2] => { results := [.lit (.bool false)], args := [d1, d2] }
  | _ => none }
def ParseLooseWrongFalsely : Prop := parseLooseRow.holds Tryz.pinned (OpenSpec.ofChange parseLooseWrong)

/- THE SECOND FORM. 'bulk': how many values and letters a reading holds, each counted each time it is reached (what is shared counts as often as it is met; a slice's spare places count too). A statement '..UptoSaid' is the law's where the arguments, and the package variables that the reading takes, are together of bulk at most 1048576: NARROWER than '..Said'. Prove '..Said' where nothing that the law and all that it calls make is longer than what came in: it says more and counts as full. Else prove '..UptoSaid'. A law counts once. -/
mutual
def uptoBulk {H : Type} : DataW H → Nat
  | .lit (.string bytes) => bytes.length + 1
  | .lit _ => 1
  | .nil => 1
  | .ptr d => uptoBulk d + 1
  | .slice elems spare => uptoBulkAll elems + uptoBulkAll spare + 1
  | .agg parts => uptoBulkAll parts + 1
  | .iface _ d => uptoBulk d + 1
  | .map entries => uptoBulkEntries entries + 1
  | .held _ => 1
def uptoBulkAll {H : Type} : List (DataW H) → Nat
  | [] => 0
  | d :: r => uptoBulk d + uptoBulkAll r
def uptoBulkEntries {H : Type} : List (Lit × DataW H) → Nat
  | [] => 0
  | x :: r => uptoBulkEntry x + uptoBulkEntries r
def uptoBulkEntry {H : Type} : Lit × DataW H → Nat
  | (.string bytes, d) => bytes.length + uptoBulk d + 1
  | (_, d) => uptoBulk d + 1
 end
def uptoSmall : (H : Type) → List (DataW H) → Bool := fun _ ds => decide (uptoBulkAll ds ≤ 1048576)
def OpenSpec.upto (s : _root_.Go.ChangeSpec) : _root_.Go.OpenSpec := { _root_.Go.OpenSpec.ofChange s with cond := some uptoSmall }

/-- 'affluxlaw15.TypesWrong', WHERE WHAT IT READS IS OF BULK AT MOST 1048576: true; the input reads as it did. -/
def typesWrongUptoRow : OpenClaim := { program := "ytojkpenjeglipaagreat", sum := "7b8b4a1c06f626b3fcf664b74ef6a0d64f6dd093e2105f4f706146653958c830", func := "afflux/affluxlaw15.TypesWrong", spec := "typesWrong", unfollowed := true, recurses := true, loops := true, apart := false, narrowed := true }
def TypesWrongUptoSaid : Prop := typesWrongUptoRow.holds Tryz.pinned (OpenSpec.upto typesWrongSpec)

/-- 'affluxlaw15.TypesMore', WHERE WHAT IT READS IS OF BULK AT MOST 1048576: true; the input reads as it did. -/
def typesMoreUptoRow : OpenClaim := { program := "ytojkpenjeglipaagreat", sum := "7b8b4a1c06f626b3fcf664b74ef6a0d64f6dd093e2105f4f706146653958c830", func := "afflux/affluxlaw15.TypesMore", spec := "typesMore", unfollowed := true, recurses := true, loops := true, apart := false, narrowed := true }
def TypesMoreUptoSaid : Prop := typesMoreUptoRow.holds Tryz.pinned (OpenSpec.upto typesMoreSpec)

/-- 'affluxlaw20.FlowNets', WHERE WHAT IT READS IS OF BULK AT MOST 1048576: true; the input reads as it did. -/
def flowNetsUptoRow : OpenClaim := { program := "ytojkpenjeglipaagreat", sum := "7b8b4a1c06f626b3fcf664b74ef6a0d64f6dd093e2105f4f706146653958c830", func := "afflux/affluxlaw20.FlowNets", spec := "flowNets", unfollowed := true, recurses := true, apart := false, narrowed := true }
def FlowNetsUptoSaid : Prop := flowNetsUptoRow.holds Tryz.pinned (OpenSpec.upto flowNetsSpec)

/-- 'affluxlaw20.FlowMore', WHERE WHAT IT READS IS OF BULK AT MOST 1048576: true; the input reads as it did. -/
def flowMoreUptoRow : OpenClaim := { program := "ytojkpenjeglipaagreat", sum := "7b8b4a1c06f626b3fcf664b74ef6a0d64f6dd093e2105f4f706146653958c830", func := "afflux/affluxlaw20.FlowMore", spec := "flowMore", unfollowed := true, recurses := true, apart := false, narrowed := true }
def FlowMoreUptoSaid : Prop := flowMoreUptoRow.holds Tryz.pinned (OpenSpec.upto flowMoreSpec)

/-- 'affluxlaw13.ParseRight', WHERE WHAT IT READS IS OF BULK AT MOST 1048576: true; the input reads as it did. -/
def parseRightUptoRow : OpenClaim := { program := "ytojkpenjeglipaagreat", sum := "7b8b4a1c06f626b3fcf664b74ef6a0d64f6dd093e2105f4f706146653958c830", func := "afflux/affluxlaw13.ParseRight", spec := "parseRight", inPlace := ["internal/bytealg.IndexByteString", "math/bits.Add64"], unfollowed := true, recurses := true, apart := false, narrowed := true }
def ParseRightUptoSaid : Prop := parseRightUptoRow.holds Tryz.pinned (OpenSpec.upto parseRightSpec)

/-- 'affluxlaw13.ParseCuts', WHERE WHAT IT READS IS OF BULK AT MOST 1048576: true; the input reads as it did. -/
def parseCutsUptoRow : OpenClaim := { program := "ytojkpenjeglipaagreat", sum := "7b8b4a1c06f626b3fcf664b74ef6a0d64f6dd093e2105f4f706146653958c830", func := "afflux/affluxlaw13.ParseCuts", spec := "parseCuts", inPlace := ["internal/bytealg.IndexByteString", "math/bits.Add64"], unfollowed := true, recurses := true, apart := false, narrowed := true }
def ParseCutsUptoSaid : Prop := parseCutsUptoRow.holds Tryz.pinned (OpenSpec.upto parseCutsSpec)

/-- 'affluxlaw13.ParseExprs', WHERE WHAT IT READS IS OF BULK AT MOST 1048576: true; the input reads as it did. -/
def parseExprsUptoRow : OpenClaim := { program := "ytojkpenjeglipaagreat", sum := "7b8b4a1c06f626b3fcf664b74ef6a0d64f6dd093e2105f4f706146653958c830", func := "afflux/affluxlaw13.ParseExprs", spec := "parseExprs", inPlace := ["internal/bytealg.IndexByteString", "math/bits.Add64"], unfollowed := true, recurses := true, apart := false, narrowed := true }
def ParseExprsUptoSaid : Prop := parseExprsUptoRow.holds Tryz.pinned (OpenSpec.upto parseExprsSpec)

/-- 'affluxlaw13.ParseLoose', WHERE WHAT IT READS IS OF BULK AT MOST 1048576: true; the input reads as it did. -/
def parseLooseUptoRow : OpenClaim := { program := "ytojkpenjeglipaagreat", sum := "7b8b4a1c06f626b3fcf664b74ef6a0d64f6dd093e2105f4f706146653958c830", func := "afflux/affluxlaw13.ParseLoose", spec := "parseLoose", inPlace := ["internal/bytealg.IndexByteString", "math/bits.Add64"], unfollowed := true, recurses := true, apart := false, narrowed := true }
def ParseLooseUptoSaid : Prop := parseLooseUptoRow.holds Tryz.pinned (OpenSpec.upto parseLooseSpec)

end Rows
end Go.Proofs.YtojkpenjeglipaaGreat
