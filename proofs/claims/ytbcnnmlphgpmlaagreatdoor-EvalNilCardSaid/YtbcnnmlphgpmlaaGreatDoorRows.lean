/-
  NARROWER THAN 'FOR EVERY INPUT', by the rows' own cells (each row's printed sentence says how): EvalSums: laid · EvalHoldsSums: laid · EvalProducts: laid · EvalHoldsProducts: laid · EvalHoldsTurns: laid · EvalChanges: laid · EvalChain: laid · EvalNil: laid.
  DERIVED. THE GIVEN ROWS OF THIS SEAT. 8 by the template 'for every input the law returns true; each argument reads behind the call as it read before'; 0 by the template 'total and deterministic' (their statements: YtbcnnmlphgpmlaaGreatDoorTotals.lean).
  GIVEN WITH THE SEED: the statements are not yours to turn. If you find one false, say at which input.
  Laid BY PROGRAM, IN A SANDBOX (cutbox-rows.mjs): the forced cells as the released guide's own fill.sh prints them over the translation 728a9da839d751e8… (all of the seat's roots in one cut). By AI agents, Wed Nov 11 2026. No macro, syntax, notation, axiom, sorry.
-/
import Derived.Test.YtbcnnmlphgpmlaaGreatDoorChecked
import GoSem.Claim
import GoSem.ClaimJoined
import GoSem.ClaimMapViews
import Derived.JoinedTies
import Derived.KernelRfl
namespace Go.Proofs.YtbcnnmlphgpmlaaGreatDoor
/- THE CELL 'sum', in the pinned program and in every row, IS THE sha256 OF THE DUMP (.gsa) THAT YtbcnnmlphgpmlaaGreatDoorProg.lean LOADS. Nothing in Lean hashes anything: it is a label: what it is worth is what the hold of that sum in a sandbox is worth. -/
noncomputable def Tryz.pinned : Pinned := { name := "ytbcnnmlphgpmlaagreatdoor", sum := "728a9da839d751e8b34d089db1e5a66a943c1c3235b26a790fb59c501e6a32a1", checked := Tryz.checked }
namespace Rows
def none {H : Type} : Left H := { results := [], args := [] }

/- WHAT THE LISTED PACKAGE-LEVEL VARIABLES READ AS WHEN THE CALL BEGINS. Each datum BY PROGRAM (the guide's laid-datum.mjs) off the statement by which the dump's own 'gosem.cut.vars' lays the variable. In a bare row this is a premise. The card (YtbcnnmlphgpmlaaGreatDoorCards.lean) ties it to the program's text. -/
def laid_math_bits_deBruijn64tab {H : Type} : DataW H := .agg [.lit (.int .u8 0), .lit (.int .u8 1), .lit (.int .u8 56), .lit (.int .u8 2), .lit (.int .u8 57), .lit (.int .u8 49), .lit (.int .u8 28), .lit (.int .u8 3), .lit (.int .u8 61), .lit (.int .u8 58), .lit (.int .u8 42), .lit (.int .u8 50), .lit (.int .u8 38), .lit (.int .u8 29), .lit (.int .u8 17), .lit (.int .u8 4), .lit (.int .u8 62), .lit (.int .u8 47), .lit (.int .u8 59), .lit (.int .u8 36), .lit (.int .u8 45), .lit (.int .u8 43), .lit (.int .u8 51), .lit (.int .u8 22), .lit (.int .u8 53), .lit (.int .u8 39), .lit (.int .u8 33), .lit (.int .u8 30), .lit (.int .u8 24), .lit (.int .u8 18), .lit (.int .u8 12), .lit (.int .u8 5), .lit (.int .u8 63), .lit (.int .u8 55), .lit (.int .u8 48), .lit (.int .u8 27), .lit (.int .u8 60), .lit (.int .u8 41), .lit (.int .u8 37), .lit (.int .u8 16), .lit (.int .u8 46), .lit (.int .u8 35), .lit (.int .u8 44), .lit (.int .u8 21), .lit (.int .u8 52), .lit (.int .u8 32), .lit (.int .u8 23), .lit (.int .u8 11), .lit (.int .u8 54), .lit (.int .u8 26), .lit (.int .u8 40), .lit (.int .u8 15), .lit (.int .u8 34), .lit (.int .u8 20), .lit (.int .u8 31), .lit (.int .u8 10), .lit (.int .u8 25), .lit (.int .u8 14), .lit (.int .u8 19), .lit (.int .u8 9), .lit (.int .u8 13), .lit (.int .u8 8), .lit (.int .u8 7), .lit (.int .u8 6)]

/-- 'arraslaw13.EvalSums': WHATEVER THE INPUT: true; the input reads as it did. -/
def evalSumsSpec : ChangeSpec := { name := "evalSums", fn := fun _ => fun
  | [d1, d2, d3, d4] => { results := [.lit (.bool true)], args := [d1, d2, d3, d4] }
  | _ => none }
def evalSumsRow : OpenClaim := { program := "ytbcnnmlphgpmlaagreatdoor", sum := "728a9da839d751e8b34d089db1e5a66a943c1c3235b26a790fb59c501e6a32a1", func := "arras/arraslaw13.EvalSums", spec := "evalSums", inPlace := ["math/bits.Add64", "math/bits.Sub64"], unfollowed := true, recurses := true, named := ["math/bits.deBruijn64tab", "math/bits.divideError", "math/bits.overflowError"], apart := false, laid := [("math/bits.deBruijn64tab", laid_math_bits_deBruijn64tab)] }
def EvalSumsSaid : Prop := evalSumsRow.holds Tryz.pinned (OpenSpec.ofChange evalSumsSpec)

/-- ITS FALSE NEIGHBOUR: 'it returns false'. Refute it at one input. -/
def evalSumsWrong : ChangeSpec := { name := "evalSums", fn := fun _ => fun
  | [d1, d2, d3, d4] => { results := [.lit (.bool false)], args := [d1, d2, d3, d4] }
  | _ => none }
def EvalSumsWrongFalsely : Prop := evalSumsRow.holds Tryz.pinned (OpenSpec.ofChange evalSumsWrong)

/-- 'arraslaw13.EvalHoldsSums': WHATEVER THE INPUT: true; the input reads as it did. -/
def evalHoldsSumsSpec : ChangeSpec := { name := "evalHoldsSums", fn := fun _ => fun
  | [d] => { results := [.lit (.bool true)], args := [d] }
  | _ => none }
def evalHoldsSumsRow : OpenClaim := { program := "ytbcnnmlphgpmlaagreatdoor", sum := "728a9da839d751e8b34d089db1e5a66a943c1c3235b26a790fb59c501e6a32a1", func := "arras/arraslaw13.EvalHoldsSums", spec := "evalHoldsSums", inPlace := ["math/bits.Add64", "math/bits.Sub64"], unfollowed := true, recurses := true, named := ["math/bits.deBruijn64tab", "math/bits.divideError", "math/bits.overflowError"], apart := false, laid := [("math/bits.deBruijn64tab", laid_math_bits_deBruijn64tab)] }
def EvalHoldsSumsSaid : Prop := evalHoldsSumsRow.holds Tryz.pinned (OpenSpec.ofChange evalHoldsSumsSpec)

/-- ITS FALSE NEIGHBOUR: 'it returns false'. Refute it at one input. -/
def evalHoldsSumsWrong : ChangeSpec := { name := "evalHoldsSums", fn := fun _ => fun
  | [d] => { results := [.lit (.bool false)], args := [d] }
  | _ => none }
def EvalHoldsSumsWrongFalsely : Prop := evalHoldsSumsRow.holds Tryz.pinned (OpenSpec.ofChange evalHoldsSumsWrong)

/-- 'arraslaw13.EvalProducts': WHATEVER THE INPUT: true; the input reads as it did. -/
def evalProductsSpec : ChangeSpec := { name := "evalProducts", fn := fun _ => fun
  | [d1, d2, d3, d4] => { results := [.lit (.bool true)], args := [d1, d2, d3, d4] }
  | _ => none }
def evalProductsRow : OpenClaim := { program := "ytbcnnmlphgpmlaagreatdoor", sum := "728a9da839d751e8b34d089db1e5a66a943c1c3235b26a790fb59c501e6a32a1", func := "arras/arraslaw13.EvalProducts", spec := "evalProducts", inPlace := ["math/bits.Add64", "math/bits.Sub64"], unfollowed := true, recurses := true, named := ["math/bits.deBruijn64tab", "math/bits.divideError", "math/bits.overflowError"], apart := false, laid := [("math/bits.deBruijn64tab", laid_math_bits_deBruijn64tab)] }
def EvalProductsSaid : Prop := evalProductsRow.holds Tryz.pinned (OpenSpec.ofChange evalProductsSpec)

/-- ITS FALSE NEIGHBOUR: 'it returns false'. Refute it at one input. -/
def evalProductsWrong : ChangeSpec := { name := "evalProducts", fn := fun _ => fun
  | [d1, d2, d3, d4] => { results := [.lit (.bool false)], args := [d1, d2, d3, d4] }
  | _ => none }
def EvalProductsWrongFalsely : Prop := evalProductsRow.holds Tryz.pinned (OpenSpec.ofChange evalProductsWrong)

/-- 'arraslaw13.EvalHoldsProducts': WHATEVER THE INPUT: true; the input reads as it did. -/
def evalHoldsProductsSpec : ChangeSpec := { name := "evalHoldsProducts", fn := fun _ => fun
  | [d] => { results := [.lit (.bool true)], args := [d] }
  | _ => none }
def evalHoldsProductsRow : OpenClaim := { program := "ytbcnnmlphgpmlaagreatdoor", sum := "728a9da839d751e8b34d089db1e5a66a943c1c3235b26a790fb59c501e6a32a1", func := "arras/arraslaw13.EvalHoldsProducts", spec := "evalHoldsProducts", inPlace := ["math/bits.Add64", "math/bits.Sub64"], unfollowed := true, recurses := true, named := ["math/bits.deBruijn64tab", "math/bits.divideError", "math/bits.overflowError"], apart := false, laid := [("math/bits.deBruijn64tab", laid_math_bits_deBruijn64tab)] }
def EvalHoldsProductsSaid : Prop := evalHoldsProductsRow.holds Tryz.pinned (OpenSpec.ofChange evalHoldsProductsSpec)

/-- ITS FALSE NEIGHBOUR: 'it returns false'. Refute it at one input. -/
def evalHoldsProductsWrong : ChangeSpec := { name := "evalHoldsProducts", fn := fun _ => fun
  | [d] => { results := [.lit (.bool false)], args := [d] }
  | _ => none }
def EvalHoldsProductsWrongFalsely : Prop := evalHoldsProductsRow.holds Tryz.pinned (OpenSpec.ofChange evalHoldsProductsWrong)

/-- 'arraslaw13.EvalHoldsTurns': WHATEVER THE INPUT: true; the input reads as it did. -/
def evalHoldsTurnsSpec : ChangeSpec := { name := "evalHoldsTurns", fn := fun _ => fun
  | [d1, d2] => { results := [.lit (.bool true)], args := [d1, d2] }
  | _ => none }
def evalHoldsTurnsRow : OpenClaim := { program := "ytbcnnmlphgpmlaagreatdoor", sum := "728a9da839d751e8b34d089db1e5a66a943c1c3235b26a790fb59c501e6a32a1", func := "arras/arraslaw13.EvalHoldsTurns", spec := "evalHoldsTurns", inPlace := ["math/bits.Add64", "math/bits.Sub64"], unfollowed := true, recurses := true, named := ["math/bits.deBruijn64tab", "math/bits.divideError", "math/bits.overflowError"], apart := false, laid := [("math/bits.deBruijn64tab", laid_math_bits_deBruijn64tab)] }
def EvalHoldsTurnsSaid : Prop := evalHoldsTurnsRow.holds Tryz.pinned (OpenSpec.ofChange evalHoldsTurnsSpec)

/-- ITS FALSE NEIGHBOUR: 'it returns false'. Refute it at one input. -/
def evalHoldsTurnsWrong : ChangeSpec := { name := "evalHoldsTurns", fn := fun _ => fun
  | [d1, d2] => { results := [.lit (.bool false)], args := [d1, d2] }
  | _ => none }
def EvalHoldsTurnsWrongFalsely : Prop := evalHoldsTurnsRow.holds Tryz.pinned (OpenSpec.ofChange evalHoldsTurnsWrong)

/-- 'arraslaw13.EvalChanges': WHATEVER THE INPUT: true; the input reads as it did. -/
def evalChangesSpec : ChangeSpec := { name := "evalChanges", fn := fun _ => fun
  | [d1, d2, d3, d4] => { results := [.lit (.bool true)], args := [d1, d2, d3, d4] }
  | _ => none }
def evalChangesRow : OpenClaim := { program := "ytbcnnmlphgpmlaagreatdoor", sum := "728a9da839d751e8b34d089db1e5a66a943c1c3235b26a790fb59c501e6a32a1", func := "arras/arraslaw13.EvalChanges", spec := "evalChanges", inPlace := ["math/bits.Add64", "math/bits.Sub64"], unfollowed := true, recurses := true, named := ["math/bits.deBruijn64tab", "math/bits.divideError", "math/bits.overflowError"], apart := false, laid := [("math/bits.deBruijn64tab", laid_math_bits_deBruijn64tab)] }
def EvalChangesSaid : Prop := evalChangesRow.holds Tryz.pinned (OpenSpec.ofChange evalChangesSpec)

/-- ITS FALSE NEIGHBOUR: 'it returns false'. Refute it at one input. -/
def evalChangesWrong : ChangeSpec := { name := "evalChanges", fn := fun _ => fun
  | [d1, d2, d3, d4] => { results := [.lit (.bool false)], args := [d1, d2, d3, d4] }
  | _ => none }
def EvalChangesWrongFalsely : Prop := evalChangesRow.holds Tryz.pinned (OpenSpec.ofChange evalChangesWrong)

/-- 'arraslaw13.EvalChain': WHATEVER THE INPUT: true; the input reads as it did. -/
def evalChainSpec : ChangeSpec := { name := "evalChain", fn := fun _ => fun
  | [d1, d2] => { results := [.lit (.bool true)], args := [d1, d2] }
  | _ => none }
def evalChainRow : OpenClaim := { program := "ytbcnnmlphgpmlaagreatdoor", sum := "728a9da839d751e8b34d089db1e5a66a943c1c3235b26a790fb59c501e6a32a1", func := "arras/arraslaw13.EvalChain", spec := "evalChain", inPlace := ["math/bits.Add64", "math/bits.Sub64"], unfollowed := true, recurses := true, named := ["math/bits.deBruijn64tab", "math/bits.divideError", "math/bits.overflowError"], apart := false, laid := [("math/bits.deBruijn64tab", laid_math_bits_deBruijn64tab)] }
def EvalChainSaid : Prop := evalChainRow.holds Tryz.pinned (OpenSpec.ofChange evalChainSpec)

/-- ITS FALSE NEIGHBOUR: 'it returns false'. Refute it at one input. -/
def evalChainWrong : ChangeSpec := { name := "evalChain", fn := fun _ => fun
  | [d1, d2] => { results := [.lit (.bool false)], args := [d1, d2] }
  | _ => none }
def EvalChainWrongFalsely : Prop := evalChainRow.holds Tryz.pinned (OpenSpec.ofChange evalChainWrong)

/-- 'arraslaw13.EvalNil': WHATEVER THE INPUT: true; the input reads as it did. -/
def evalNilSpec : ChangeSpec := { name := "evalNil", fn := fun _ => fun
  | [d1, d2] => { results := [.lit (.bool true)], args := [d1, d2] }
  | _ => none }
def evalNilRow : OpenClaim := { program := "ytbcnnmlphgpmlaagreatdoor", sum := "728a9da839d751e8b34d089db1e5a66a943c1c3235b26a790fb59c501e6a32a1", func := "arras/arraslaw13.EvalNil", spec := "evalNil", inPlace := ["math/bits.Add64", "math/bits.Sub64"], unfollowed := true, recurses := true, named := ["math/bits.deBruijn64tab", "math/bits.divideError", "math/bits.overflowError"], apart := false, laid := [("math/bits.deBruijn64tab", laid_math_bits_deBruijn64tab)] }
def EvalNilSaid : Prop := evalNilRow.holds Tryz.pinned (OpenSpec.ofChange evalNilSpec)

/-- ITS FALSE NEIGHBOUR: 'it returns false'. Refute it at one input. -/
def evalNilWrong : ChangeSpec := { name := "evalNil", fn := fun _ => fun
  | [d1, d2] => { results := [.lit (.bool false)], args := [d1, d2] }
  | _ => none }
def EvalNilWrongFalsely : Prop := evalNilRow.holds Tryz.pinned (OpenSpec.ofChange evalNilWrong)

/- THE SECOND FORM. 'bulk': how many values and letters a reading holds, each counted each time it is reached (what is shared counts as often as it is met; a slice's spare places count too). A statement '..UptoSaid' is the law's where the arguments, and the package variables that the reading takes, are together of bulk at most 1048576: NARROWER than '..Said'. Prove '..Said' where nothing that the law and all that it calls make is longer than what came in: it says more and counts as full. Else prove '..UptoSaid'. A law counts once. -/
mutual
def uptoBulk {H : Type} : DataW H → Nat
  | .lit (.string bytes) => bytes.length + 1
  | .lit _ => 1
  | .nil => 1
  | .ptr d => uptoBulk d + 1
  | .slice elems spare => uptoBulkAll elems + uptoBulkAll spare + 1
  | .agg parts => uptoBulkAll parts + 1
  | .iface _ d => uptoBulk d + 1
  | .map entries => uptoBulkEntries entries + 1
  | .held _ => 1
def uptoBulkAll {H : Type} : List (DataW H) → Nat
  | [] => 0
  | d :: r => uptoBulk d + uptoBulkAll r
def uptoBulkEntries {H : Type} : List (Lit × DataW H) → Nat
  | [] => 0
  | x :: r => uptoBulkEntry x + uptoBulkEntries r
def uptoBulkEntry {H : Type} : Lit × DataW H → Nat
  | (.string bytes, d) => bytes.length + uptoBulk d + 1
  | (_, d) => uptoBulk d + 1
 end
def uptoSmall : (H : Type) → List (DataW H) → Bool := fun _ ds => decide (uptoBulkAll ds ≤ 1048576)
def OpenSpec.upto (s : _root_.Go.ChangeSpec) : _root_.Go.OpenSpec := { _root_.Go.OpenSpec.ofChange s with cond := some uptoSmall }

/-- 'arraslaw13.EvalSums', WHERE WHAT IT READS IS OF BULK AT MOST 1048576: true; the input reads as it did. -/
def evalSumsUptoRow : OpenClaim := { program := "ytbcnnmlphgpmlaagreatdoor", sum := "728a9da839d751e8b34d089db1e5a66a943c1c3235b26a790fb59c501e6a32a1", func := "arras/arraslaw13.EvalSums", spec := "evalSums", inPlace := ["math/bits.Add64", "math/bits.Sub64"], unfollowed := true, recurses := true, named := ["math/bits.deBruijn64tab", "math/bits.divideError", "math/bits.overflowError"], apart := false, laid := [("math/bits.deBruijn64tab", laid_math_bits_deBruijn64tab)], narrowed := true }
def EvalSumsUptoSaid : Prop := evalSumsUptoRow.holds Tryz.pinned (OpenSpec.upto evalSumsSpec)

/-- 'arraslaw13.EvalHoldsSums', WHERE WHAT IT READS IS OF BULK AT MOST 1048576: true; the input reads as it did. -/
def evalHoldsSumsUptoRow : OpenClaim := { program := "ytbcnnmlphgpmlaagreatdoor", sum := "728a9da839d751e8b34d089db1e5a66a943c1c3235b26a790fb59c501e6a32a1", func := "arras/arraslaw13.EvalHoldsSums", spec := "evalHoldsSums", inPlace := ["math/bits.Add64", "math/bits.Sub64"], unfollowed := true, recurses := true, named := ["math/bits.deBruijn64tab", "math/bits.divideError", "math/bits.overflowError"], apart := false, laid := [("math/bits.deBruijn64tab", laid_math_bits_deBruijn64tab)], narrowed := true }
def EvalHoldsSumsUptoSaid : Prop := evalHoldsSumsUptoRow.holds Tryz.pinned (OpenSpec.upto evalHoldsSumsSpec)

/-- 'arraslaw13.EvalProducts', WHERE WHAT IT READS IS OF BULK AT MOST 1048576: true; the input reads as it did. -/
def evalProductsUptoRow : OpenClaim := { program := "ytbcnnmlphgpmlaagreatdoor", sum := "728a9da839d751e8b34d089db1e5a66a943c1c3235b26a790fb59c501e6a32a1", func := "arras/arraslaw13.EvalProducts", spec := "evalProducts", inPlace := ["math/bits.Add64", "math/bits.Sub64"], unfollowed := true, recurses := true, named := ["math/bits.deBruijn64tab", "math/bits.divideError", "math/bits.overflowError"], apart := false, laid := [("math/bits.deBruijn64tab", laid_math_bits_deBruijn64tab)], narrowed := true }
def EvalProductsUptoSaid : Prop := evalProductsUptoRow.holds Tryz.pinned (OpenSpec.upto evalProductsSpec)

/-- 'arraslaw13.EvalHoldsProducts', WHERE WHAT IT READS IS OF BULK AT MOST 1048576: true; the input reads as it did. -/
def evalHoldsProductsUptoRow : OpenClaim := { program := "ytbcnnmlphgpmlaagreatdoor", sum := "728a9da839d751e8b34d089db1e5a66a943c1c3235b26a790fb59c501e6a32a1", func := "arras/arraslaw13.EvalHoldsProducts", spec := "evalHoldsProducts", inPlace := ["math/bits.Add64", "math/bits.Sub64"], unfollowed := true, recurses := true, named := ["math/bits.deBruijn64tab", "math/bits.divideError", "math/bits.overflowError"], apart := false, laid := [("math/bits.deBruijn64tab", laid_math_bits_deBruijn64tab)], narrowed := true }
def EvalHoldsProductsUptoSaid : Prop := evalHoldsProductsUptoRow.holds Tryz.pinned (OpenSpec.upto evalHoldsProductsSpec)

/-- 'arraslaw13.EvalHoldsTurns', WHERE WHAT IT READS IS OF BULK AT MOST 1048576: true; the input reads as it did. -/
def evalHoldsTurnsUptoRow : OpenClaim := { program := "ytbcnnmlphgpmlaagreatdoor", sum := "728a9da839d751e8b34d089db1e5a66a943c1c3235b26a790fb59c501e6a32a1", func := "arras/arraslaw13.EvalHoldsTurns", spec := "evalHoldsTurns", inPlace := ["math/bits.Add64", "math/bits.Sub64"], unfollowed := true, recurses := true, named := ["math/bits.deBruijn64tab", "math/bits.divideError", "math/bits.overflowError"], apart := false, laid := [("math/bits.deBruijn64tab", laid_math_bits_deBruijn64tab)], narrowed := true }
def EvalHoldsTurnsUptoSaid : Prop := evalHoldsTurnsUptoRow.holds Tryz.pinned (OpenSpec.upto evalHoldsTurnsSpec)

/-- 'arraslaw13.EvalChanges', WHERE WHAT IT READS IS OF BULK AT MOST 1048576: true; the input reads as it did. -/
def evalChangesUptoRow : OpenClaim := { program := "ytbcnnmlphgpmlaagreatdoor", sum := "728a9da839d751e8b34d089db1e5a66a943c1c3235b26a790fb59c501e6a32a1", func := "arras/arraslaw13.EvalChanges", spec := "evalChanges", inPlace := ["math/bits.Add64", "math/bits.Sub64"], unfollowed := true, recurses := true, named := ["math/bits.deBruijn64tab", "math/bits.divideError", "math/bits.overflowError"], apart := false, laid := [("math/bits.deBruijn64tab", laid_math_bits_deBruijn64tab)], narrowed := true }
def EvalChangesUptoSaid : Prop := evalChangesUptoRow.holds Tryz.pinned (OpenSpec.upto evalChangesSpec)

/-- 'arraslaw13.EvalChain', WHERE WHAT IT READS IS OF BULK AT MOST 1048576: true; the input reads as it did. -/
def evalChainUptoRow : OpenClaim := { program := "ytbcnnmlphgpmlaagreatdoor", sum := "728a9da839d751e8b34d089db1e5a66a943c1c3235b26a790fb59c501e6a32a1", func := "arras/arraslaw13.EvalChain", spec := "evalChain", inPlace := ["math/bits.Add64", "math/bits.Sub64"], unfollowed := true, recurses := true, named := ["math/bits.deBruijn64tab", "math/bits.divideError", "math/bits.overflowError"], apart := false, laid := [("math/bits.deBruijn64tab", laid_math_bits_deBruijn64tab)], narrowed := true }
def EvalChainUptoSaid : Prop := evalChainUptoRow.holds Tryz.pinned (OpenSpec.upto evalChainSpec)

/-- 'arraslaw13.EvalNil', WHERE WHAT IT READS IS OF BULK AT MOST 1048576: true; the input reads as it did. -/
def evalNilUptoRow : OpenClaim := { program := "ytbcnnmlphgpmlaagreatdoor", sum := "728a9da839d751e8b34d089db1e5a66a943c1c3235b26a790fb59c501e6a32a1", func := "arras/arraslaw13.EvalNil", spec := "evalNil", inPlace := ["math/bits.Add64", "math/bits.Sub64"], unfollowed := true, recurses := true, named := ["math/bits.deBruijn64tab", "math/bits.divideError", "math/bits.overflowError"], apart := false, laid := [("math/bits.deBruijn64tab", laid_math_bits_deBruijn64tab)], narrowed := true }
def EvalNilUptoSaid : Prop := evalNilUptoRow.holds Tryz.pinned (OpenSpec.upto evalNilSpec)

end Rows
end Go.Proofs.YtbcnnmlphgpmlaaGreatDoor
