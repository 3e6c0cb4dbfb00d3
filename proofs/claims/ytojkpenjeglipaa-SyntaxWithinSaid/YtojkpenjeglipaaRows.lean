/-
  No cell of these rows narrows 'for every input' (looked for: loops, veiled, ifaces, maps, wideKeys, modest, calm, conditions, laid).
  DERIVED. THE GIVEN ROWS OF THIS SEAT. 3 by the template 'for every input the law returns true; each argument reads behind the call as it read before'; 0 by the template 'total and deterministic' (their statements: YtojkpenjeglipaaTotals.lean).
  GIVEN WITH THE SEED: the statements are not yours to turn. If you find one false, say at which input.
  Laid BY PROGRAM, IN A SANDBOX (cutbox-rows.mjs): the forced cells as the released guide's own fill.sh prints them over the translation a31b1b9ac2b4bcfd… (all of the seat's roots in one cut). By AI agents, Wed Nov 11 2026. No macro, syntax, notation, axiom, sorry.
-/
import Derived.Test.YtojkpenjeglipaaChecked
import GoSem.Claim
import GoSem.ClaimJoined
import GoSem.ClaimMapViews
import Derived.JoinedTies
import Derived.KernelRfl
namespace Go.Proofs.Ytojkpenjeglipaa
/- THE CELL 'sum', in the pinned program and in every row, IS THE sha256 OF THE DUMP (.gsa) THAT YtojkpenjeglipaaProg.lean LOADS. Nothing in Lean hashes anything: it is a label: what it is worth is what the hold of that sum in a sandbox is worth. -/
noncomputable def Try.pinned : Pinned := { name := "ytojkpenjeglipaa", sum := "a31b1b9ac2b4bcfdf02c45bb253f2aad182f617ccad62626522425ce2466acdb", checked := Try.checked }
namespace Rows
def none {H : Type} : Left H := { results := [], args := [] }

/-- 'affluxlaw12.SyntaxWords': WHATEVER THE INPUT: true; the input reads as it did. -/
def syntaxWordsSpec : ChangeSpec := { name := "syntaxWords", fn := fun _ => fun
  | [d1, d2] => { results := [.lit (.bool true)], args := [d1, d2] }
  | _ => none }
def syntaxWordsRow : OpenClaim := { program := "ytojkpenjeglipaa", sum := "a31b1b9ac2b4bcfdf02c45bb253f2aad182f617ccad62626522425ce2466acdb", func := "afflux/affluxlaw12.SyntaxWords", spec := "syntaxWords", unfollowed := true, recurses := true, apart := false }
def SyntaxWordsSaid : Prop := syntaxWordsRow.holds Try.pinned (OpenSpec.ofChange syntaxWordsSpec)

/-- ITS FALSE NEIGHBOUR: 'it returns false'. Refute it at one input. -/
def syntaxWordsWrong : ChangeSpec := { name := "syntaxWords", fn := fun _ => fun
  | [d1, d2] => { results := [.lit (.bool false)], args := [d1, d2] }
  | _ => none }
def SyntaxWordsWrongFalsely : Prop := syntaxWordsRow.holds Try.pinned (OpenSpec.ofChange syntaxWordsWrong)

/-- 'affluxlaw12.SyntaxWithin': WHATEVER THE INPUT: true; the input reads as it did. -/
def syntaxWithinSpec : ChangeSpec := { name := "syntaxWithin", fn := fun _ => fun
  | [d1, d2] => { results := [.lit (.bool true)], args := [d1, d2] }
  | _ => none }
def syntaxWithinRow : OpenClaim := { program := "ytojkpenjeglipaa", sum := "a31b1b9ac2b4bcfdf02c45bb253f2aad182f617ccad62626522425ce2466acdb", func := "afflux/affluxlaw12.SyntaxWithin", spec := "syntaxWithin", unfollowed := true, recurses := true, apart := false }
def SyntaxWithinSaid : Prop := syntaxWithinRow.holds Try.pinned (OpenSpec.ofChange syntaxWithinSpec)

/-- ITS FALSE NEIGHBOUR: 'it returns false'. Refute it at one input. -/
def syntaxWithinWrong : ChangeSpec := { name := "syntaxWithin", fn := fun _ => fun
  | [d1, d2] => { results := [.lit (.bool false)], args := [d1, d2] }
  | _ => none }
def SyntaxWithinWrongFalsely : Prop := syntaxWithinRow.holds Try.pinned (OpenSpec.ofChange syntaxWithinWrong)

/-- 'affluxlaw12.SyntaxProcs': WHATEVER THE INPUT: true; the input reads as it did. -/
def syntaxProcsSpec : ChangeSpec := { name := "syntaxProcs", fn := fun _ => fun
  | [d] => { results := [.lit (.bool true)], args := [d] }
  | _ => none }
def syntaxProcsRow : OpenClaim := { program := "ytojkpenjeglipaa", sum := "a31b1b9ac2b4bcfdf02c45bb253f2aad182f617ccad62626522425ce2466acdb", func := "afflux/affluxlaw12.SyntaxProcs", spec := "syntaxProcs", unfollowed := true, recurses := true, apart := false }
def SyntaxProcsSaid : Prop := syntaxProcsRow.holds Try.pinned (OpenSpec.ofChange syntaxProcsSpec)

/-- ITS FALSE NEIGHBOUR: 'it returns false'. Refute it at one input. -/
def syntaxProcsWrong : ChangeSpec := { name := "syntaxProcs", fn := fun _ => fun
  | [d] => { results := [.lit (.bool false)], args := [d] }
  | _ => none }
def SyntaxProcsWrongFalsely : Prop := syntaxProcsRow.holds Try.pinned (OpenSpec.ofChange syntaxProcsWrong)

/- THE SECOND FORM. 'bulk': how many values and letters a reading holds, each counted each time it is reached (what is shared counts as often as it is met; a slice's spare places count too). A statement '..UptoSaid' is the law's where the arguments, and the package variables that the reading takes, are together of bulk at most 1048576: NARROWER than '..Said'. Prove '..Said' where nothing that the law and all that it calls make is longer than what came in: it says more and counts as full. Else prove '..UptoSaid'. A law counts once. -/
mutual
def uptoBulk {H : Type} : DataW H → Nat
  | .lit (.string bytes) => bytes.length + 1
  | .lit _ => 1
  | .nil => 1
  | .ptr d => uptoBulk d + 1
  | .slice elems spare => uptoBulkAll elems + uptoBulkAll spare + 1
  | .agg parts => uptoBulkAll parts + 1
  | .iface _ d => uptoBulk d + 1
  | .map entries => uptoBulkEntries entries + 1
  | .held _ => 1
def uptoBulkAll {H : Type} : List (DataW H) → Nat
  | [] => 0
  | d :: r => uptoBulk d + uptoBulkAll r
def uptoBulkEntries {H : Type} : List (Lit × DataW H) → Nat
  | [] => 0
  | x :: r => uptoBulkEntry x + uptoBulkEntries r
def uptoBulkEntry {H : Type} : Lit × DataW H → Nat
  | (.string bytes, d) => bytes.length + uptoBulk d + 1
  | (_, d) => uptoBulk d + 1
 end
def uptoSmall : (H : Type) → List (DataW H) → Bool := fun _ ds => decide (uptoBulkAll ds ≤ 1048576)
def OpenSpec.upto (s : _root_.Go.ChangeSpec) : _root_.Go.OpenSpec := { _root_.Go.OpenSpec.ofChange s with cond := some uptoSmall }

/-- 'affluxlaw12.SyntaxWords', WHERE WHAT IT READS IS OF BULK AT MOST 1048576: true; the input reads as it did. -/
def syntaxWordsUptoRow : OpenClaim := { program := "ytojkpenjeglipaa", sum := "a31b1b9ac2b4bcfdf02c45bb253f2aad182f617ccad62626522425ce2466acdb", func := "afflux/affluxlaw12.SyntaxWords", spec := "syntaxWords", unfollowed := true, recurses := true, apart := false, narrowed := true }
def SyntaxWordsUptoSaid : Prop := syntaxWordsUptoRow.holds Try.pinned (OpenSpec.upto syntaxWordsSpec)

/-- 'affluxlaw12.SyntaxWithin', WHERE WHAT IT READS IS OF BULK AT MOST 1048576: true; the input reads as it did. -/
def syntaxWithinUptoRow : OpenClaim := { program := "ytojkpenjeglipaa", sum := "a31b1b9ac2b4bcfdf02c45bb253f2aad182f617ccad62626522425ce2466acdb", func := "afflux/affluxlaw12.SyntaxWithin", spec := "syntaxWithin", unfollowed := true, recurses := true, apart := false, narrowed := true }
def SyntaxWithinUptoSaid : Prop := syntaxWithinUptoRow.holds Try.pinned (OpenSpec.upto syntaxWithinSpec)

/-- 'affluxlaw12.SyntaxProcs', WHERE WHAT IT READS IS OF BULK AT MOST 1048576: true; the input reads as it did. -/
def syntaxProcsUptoRow : OpenClaim := { program := "ytojkpenjeglipaa", sum := "a31b1b9ac2b4bcfdf02c45bb253f2aad182f617ccad62626522425ce2466acdb", func := "afflux/affluxlaw12.SyntaxProcs", spec := "syntaxProcs", unfollowed := true, recurses := true, apart := false, narrowed := true }
def SyntaxProcsUptoSaid : Prop := syntaxProcsUptoRow.holds Try.pinned (OpenSpec.upto syntaxProcsSpec)

end Rows
end Go.Proofs.Ytojkpenjeglipaa
