/-
  DERIVED. GIVEN WITH THE SEED: THE CARDS: each row of YtbcnnmlphgpmlaaGreatDoorRows.lean that lists a variable, with what it lists TIED to the program's text (the seventh form; the later family's looks); each row that meets fmt, with fmt's text TOLD by the authors' own Lean function (tested against real Go, not proved from fmt's source: count such statements apart). THE CARD IS WHAT COUNTS. Prove the row's statement (the work); the ties are given (YtbcnnmlphgpmlaaGreatDoorTie.lean); close each card by the builder's one call (the guide's Derived/Test/ToyasCard.lean, 'card_holds'). Laid BY PROGRAM, IN A SANDBOX (cutbox-door.mjs). By AI agents, Wed Nov 11 2026. No macro, syntax, notation, axiom, sorry.
-/
import Derived.Test.YtbcnnmlphgpmlaaGreatDoorRows
import GoSem.ClaimSeven
namespace Go.Proofs.YtbcnnmlphgpmlaaGreatDoor
namespace Rows

/-- THE TIED CARD OF 'arraslaw13.EvalSums'. -/
def evalSumsCard : Claim7 := { stood := { row := evalSumsRow, standIns := [], harness := (true, "57d57b9190af6991d57807ed171984b0aebf27c2086aefe24f2cd888a68fdb20"), looks := false }, kinds := [], alts := [], laidByText := true, laidKinds := [.data], laidTests := true, laidLooks := .later }
def EvalSumsCardSaid : Prop := Claim7.holds Tryz.pinned (.plain (OpenSpec.ofChange evalSumsSpec)) evalSumsCard

/-- THE TIED CARD OF 'arraslaw13.EvalHoldsSums'. -/
def evalHoldsSumsCard : Claim7 := { stood := { row := evalHoldsSumsRow, standIns := [], harness := (true, "57d57b9190af6991d57807ed171984b0aebf27c2086aefe24f2cd888a68fdb20"), looks := false }, kinds := [], alts := [], laidByText := true, laidKinds := [.data], laidTests := true, laidLooks := .later }
def EvalHoldsSumsCardSaid : Prop := Claim7.holds Tryz.pinned (.plain (OpenSpec.ofChange evalHoldsSumsSpec)) evalHoldsSumsCard

/-- THE TIED CARD OF 'arraslaw13.EvalProducts'. -/
def evalProductsCard : Claim7 := { stood := { row := evalProductsRow, standIns := [], harness := (true, "57d57b9190af6991d57807ed171984b0aebf27c2086aefe24f2cd888a68fdb20"), looks := false }, kinds := [], alts := [], laidByText := true, laidKinds := [.data], laidTests := true, laidLooks := .later }
def EvalProductsCardSaid : Prop := Claim7.holds Tryz.pinned (.plain (OpenSpec.ofChange evalProductsSpec)) evalProductsCard

/-- THE TIED CARD OF 'arraslaw13.EvalHoldsProducts'. -/
def evalHoldsProductsCard : Claim7 := { stood := { row := evalHoldsProductsRow, standIns := [], harness := (true, "57d57b9190af6991d57807ed171984b0aebf27c2086aefe24f2cd888a68fdb20"), looks := false }, kinds := [], alts := [], laidByText := true, laidKinds := [.data], laidTests := true, laidLooks := .later }
def EvalHoldsProductsCardSaid : Prop := Claim7.holds Tryz.pinned (.plain (OpenSpec.ofChange evalHoldsProductsSpec)) evalHoldsProductsCard

/-- THE TIED CARD OF 'arraslaw13.EvalHoldsTurns'. -/
def evalHoldsTurnsCard : Claim7 := { stood := { row := evalHoldsTurnsRow, standIns := [], harness := (true, "57d57b9190af6991d57807ed171984b0aebf27c2086aefe24f2cd888a68fdb20"), looks := false }, kinds := [], alts := [], laidByText := true, laidKinds := [.data], laidTests := true, laidLooks := .later }
def EvalHoldsTurnsCardSaid : Prop := Claim7.holds Tryz.pinned (.plain (OpenSpec.ofChange evalHoldsTurnsSpec)) evalHoldsTurnsCard

/-- THE TIED CARD OF 'arraslaw13.EvalChanges'. -/
def evalChangesCard : Claim7 := { stood := { row := evalChangesRow, standIns := [], harness := (true, "57d57b9190af6991d57807ed171984b0aebf27c2086aefe24f2cd888a68fdb20"), looks := false }, kinds := [], alts := [], laidByText := true, laidKinds := [.data], laidTests := true, laidLooks := .later }
def EvalChangesCardSaid : Prop := Claim7.holds Tryz.pinned (.plain (OpenSpec.ofChange evalChangesSpec)) evalChangesCard

/-- THE TIED CARD OF 'arraslaw13.EvalChain'. -/
def evalChainCard : Claim7 := { stood := { row := evalChainRow, standIns := [], harness := (true, "57d57b9190af6991d57807ed171984b0aebf27c2086aefe24f2cd888a68fdb20"), looks := false }, kinds := [], alts := [], laidByText := true, laidKinds := [.data], laidTests := true, laidLooks := .later }
def EvalChainCardSaid : Prop := Claim7.holds Tryz.pinned (.plain (OpenSpec.ofChange evalChainSpec)) evalChainCard

/-- THE TIED CARD OF 'arraslaw13.EvalNil'. -/
def evalNilCard : Claim7 := { stood := { row := evalNilRow, standIns := [], harness := (true, "57d57b9190af6991d57807ed171984b0aebf27c2086aefe24f2cd888a68fdb20"), looks := false }, kinds := [], alts := [], laidByText := true, laidKinds := [.data], laidTests := true, laidLooks := .later }
def EvalNilCardSaid : Prop := Claim7.holds Tryz.pinned (.plain (OpenSpec.ofChange evalNilSpec)) evalNilCard

/-- THE SECOND FORM's CARD OF 'arraslaw13.EvalSums'. -/
def evalSumsUptoCard : Claim7 := { stood := { row := evalSumsUptoRow, standIns := [], harness := (true, "57d57b9190af6991d57807ed171984b0aebf27c2086aefe24f2cd888a68fdb20"), looks := false }, kinds := [], alts := [], laidByText := true, laidKinds := [.data], laidTests := true, laidLooks := .later }
def EvalSumsUptoCardSaid : Prop := Claim7.holds Tryz.pinned (.plain (OpenSpec.upto evalSumsSpec)) evalSumsUptoCard

/-- THE SECOND FORM's CARD OF 'arraslaw13.EvalHoldsSums'. -/
def evalHoldsSumsUptoCard : Claim7 := { stood := { row := evalHoldsSumsUptoRow, standIns := [], harness := (true, "57d57b9190af6991d57807ed171984b0aebf27c2086aefe24f2cd888a68fdb20"), looks := false }, kinds := [], alts := [], laidByText := true, laidKinds := [.data], laidTests := true, laidLooks := .later }
def EvalHoldsSumsUptoCardSaid : Prop := Claim7.holds Tryz.pinned (.plain (OpenSpec.upto evalHoldsSumsSpec)) evalHoldsSumsUptoCard

/-- THE SECOND FORM's CARD OF 'arraslaw13.EvalProducts'. -/
def evalProductsUptoCard : Claim7 := { stood := { row := evalProductsUptoRow, standIns := [], harness := (true, "57d57b9190af6991d57807ed171984b0aebf27c2086aefe24f2cd888a68fdb20"), looks := false }, kinds := [], alts := [], laidByText := true, laidKinds := [.data], laidTests := true, laidLooks := .later }
def EvalProductsUptoCardSaid : Prop := Claim7.holds Tryz.pinned (.plain (OpenSpec.upto evalProductsSpec)) evalProductsUptoCard

/-- THE SECOND FORM's CARD OF 'arraslaw13.EvalHoldsProducts'. -/
def evalHoldsProductsUptoCard : Claim7 := { stood := { row := evalHoldsProductsUptoRow, standIns := [], harness := (true, "57d57b9190af6991d57807ed171984b0aebf27c2086aefe24f2cd888a68fdb20"), looks := false }, kinds := [], alts := [], laidByText := true, laidKinds := [.data], laidTests := true, laidLooks := .later }
def EvalHoldsProductsUptoCardSaid : Prop := Claim7.holds Tryz.pinned (.plain (OpenSpec.upto evalHoldsProductsSpec)) evalHoldsProductsUptoCard

/-- THE SECOND FORM's CARD OF 'arraslaw13.EvalHoldsTurns'. -/
def evalHoldsTurnsUptoCard : Claim7 := { stood := { row := evalHoldsTurnsUptoRow, standIns := [], harness := (true, "57d57b9190af6991d57807ed171984b0aebf27c2086aefe24f2cd888a68fdb20"), looks := false }, kinds := [], alts := [], laidByText := true, laidKinds := [.data], laidTests := true, laidLooks := .later }
def EvalHoldsTurnsUptoCardSaid : Prop := Claim7.holds Tryz.pinned (.plain (OpenSpec.upto evalHoldsTurnsSpec)) evalHoldsTurnsUptoCard

/-- THE SECOND FORM's CARD OF 'arraslaw13.EvalChanges'. -/
def evalChangesUptoCard : Claim7 := { stood := { row := evalChangesUptoRow, standIns := [], harness := (true, "57d57b9190af6991d57807ed171984b0aebf27c2086aefe24f2cd888a68fdb20"), looks := false }, kinds := [], alts := [], laidByText := true, laidKinds := [.data], laidTests := true, laidLooks := .later }
def EvalChangesUptoCardSaid : Prop := Claim7.holds Tryz.pinned (.plain (OpenSpec.upto evalChangesSpec)) evalChangesUptoCard

/-- THE SECOND FORM's CARD OF 'arraslaw13.EvalChain'. -/
def evalChainUptoCard : Claim7 := { stood := { row := evalChainUptoRow, standIns := [], harness := (true, "57d57b9190af6991d57807ed171984b0aebf27c2086aefe24f2cd888a68fdb20"), looks := false }, kinds := [], alts := [], laidByText := true, laidKinds := [.data], laidTests := true, laidLooks := .later }
def EvalChainUptoCardSaid : Prop := Claim7.holds Tryz.pinned (.plain (OpenSpec.upto evalChainSpec)) evalChainUptoCard

/-- THE SECOND FORM's CARD OF 'arraslaw13.EvalNil'. -/
def evalNilUptoCard : Claim7 := { stood := { row := evalNilUptoRow, standIns := [], harness := (true, "57d57b9190af6991d57807ed171984b0aebf27c2086aefe24f2cd888a68fdb20"), looks := false }, kinds := [], alts := [], laidByText := true, laidKinds := [.data], laidTests := true, laidLooks := .later }
def EvalNilUptoCardSaid : Prop := Claim7.holds Tryz.pinned (.plain (OpenSpec.upto evalNilSpec)) evalNilUptoCard
end Rows
end Go.Proofs.YtbcnnmlphgpmlaaGreatDoor
