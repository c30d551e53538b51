/-
  DERIVED. GIVEN WITH THE SEED: THE CARDS: each row of YtejbamobkncfhaaDoorRows.lean that lists a variable, with what it lists TIED to the program's text (the seventh form; the later family's looks); each row that meets fmt, with fmt's text TOLD by the authors' own Lean function (tested against real Go, not proved from fmt's source: count such statements apart). THE CARD IS WHAT COUNTS. Prove the row's statement (the work); the ties are given (YtejbamobkncfhaaDoorTie.lean); close each card by the builder's one call (the guide's Derived/Test/ToyasCard.lean, 'card_holds'). Laid BY PROGRAM, IN A SANDBOX (cutbox-door.mjs). By AI agents, Wed Nov 11 2026. No macro, syntax, notation, axiom, sorry.
-/
import Derived.Test.YtejbamobkncfhaaDoorRows
import GoSem.ClaimSeven
namespace Go.Proofs.YtejbamobkncfhaaDoor
namespace Rows

/-- THE TIED CARD OF 'pentaglotlaw10.ParadigmValid'. -/
def paradigmValidCard : Claim7 := { stood := { row := paradigmValidRow, standIns := [], harness := (true, "7cd47f837c94149b023b97583500c6a3d5f22eb20119141cdab11fbcd7be311a"), looks := false }, kinds := [], alts := [], laidByText := true, laidKinds := [.data, .pinned], laidTests := true, laidLooks := .later }
def ParadigmValidCardSaid : Prop := Claim7.holds Tryd.pinned (.plain (OpenSpec.ofChange paradigmValidSpec)) paradigmValidCard

/-- THE SECOND FORM's CARD OF 'pentaglotlaw10.ParadigmValid'. -/
def paradigmValidUptoCard : Claim7 := { stood := { row := paradigmValidUptoRow, standIns := [], harness := (true, "7cd47f837c94149b023b97583500c6a3d5f22eb20119141cdab11fbcd7be311a"), looks := false }, kinds := [], alts := [], laidByText := true, laidKinds := [.data, .pinned], laidTests := true, laidLooks := .later }
def ParadigmValidUptoCardSaid : Prop := Claim7.holds Tryd.pinned (.plain (OpenSpec.upto paradigmValidSpec)) paradigmValidUptoCard
end Rows
end Go.Proofs.YtejbamobkncfhaaDoor
