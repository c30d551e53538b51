/-
  DERIVED. GIVEN WITH THE SEED: THE CARDS: each row of YtcjihfnjccclgaaGreatDoorRows.lean that lists a variable, with what it lists TIED to the program's text (the seventh form; the later family's looks); each row that meets fmt, with fmt's text TOLD by the authors' own Lean function (tested against real Go, not proved from fmt's source: count such statements apart). THE CARD IS WHAT COUNTS. Prove the row's statement (the work); the ties are given (YtcjihfnjccclgaaGreatDoorTie.lean); close each card by the builder's one call (the guide's Derived/Test/ToyasCard.lean, 'card_holds'). Laid BY PROGRAM, IN A SANDBOX (cutbox-door.mjs). By AI agents, Wed Nov 11 2026. No macro, syntax, notation, axiom, sorry.
-/
import Derived.Test.YtcjihfnjccclgaaGreatDoorRows
import GoSem.ClaimSeven
namespace Go.Proofs.YtcjihfnjccclgaaGreatDoor
namespace Rows

/-- THE TIED CARD OF 'pentaglotlaw11.MorphologyCheck'. -/
def morphologyCheckCard : Claim7 := { stood := { row := morphologyCheckRow, standIns := [], harness := (true, "4c8821cff4009e5203881bab25651143ded28a61e099881442d1039725ebaaee"), looks := false }, kinds := [], alts := [], laidByText := true, laidKinds := [.data, .pinned], laidTests := true, laidLooks := .later }
def MorphologyCheckCardSaid : Prop := Claim7.holds Tryz.pinned (.plain (OpenSpec.ofChange morphologyCheckSpec)) morphologyCheckCard

/-- THE TIED CARD OF 'pentaglotlaw11.MorphologyAnalyses'. -/
def morphologyAnalysesCard : Claim7 := { stood := { row := morphologyAnalysesRow, standIns := [], harness := (true, "4c8821cff4009e5203881bab25651143ded28a61e099881442d1039725ebaaee"), looks := false }, kinds := [], alts := [], laidByText := true, laidKinds := [.data, .pinned], laidTests := true, laidLooks := .later }
def MorphologyAnalysesCardSaid : Prop := Claim7.holds Tryz.pinned (.plain (OpenSpec.ofChange morphologyAnalysesSpec)) morphologyAnalysesCard

/-- THE TIED CARD OF 'pentaglotlaw11.MorphologyAmbiguity'. -/
def morphologyAmbiguityCard : Claim7 := { stood := { row := morphologyAmbiguityRow, standIns := [], harness := (true, "4c8821cff4009e5203881bab25651143ded28a61e099881442d1039725ebaaee"), looks := false }, kinds := [], alts := [], laidByText := true, laidKinds := [.data, .pinned], laidTests := true, laidLooks := .later }
def MorphologyAmbiguityCardSaid : Prop := Claim7.holds Tryz.pinned (.plain (OpenSpec.ofChange morphologyAmbiguitySpec)) morphologyAmbiguityCard

/-- THE TIED CARD OF 'pentaglotlaw11.MorphologyAll'. -/
def morphologyAllCard : Claim7 := { stood := { row := morphologyAllRow, standIns := [], harness := (true, "4c8821cff4009e5203881bab25651143ded28a61e099881442d1039725ebaaee"), looks := false }, kinds := [], alts := [], laidByText := true, laidKinds := [.data, .pinned], laidTests := true, laidLooks := .later }
def MorphologyAllCardSaid : Prop := Claim7.holds Tryz.pinned (.plain (OpenSpec.ofChange morphologyAllSpec)) morphologyAllCard

/-- THE TIED CARD OF 'pentaglotlaw11.MorphologyMore'. -/
def morphologyMoreCard : Claim7 := { stood := { row := morphologyMoreRow, standIns := [], harness := (true, "4c8821cff4009e5203881bab25651143ded28a61e099881442d1039725ebaaee"), looks := false }, kinds := [], alts := [], laidByText := true, laidKinds := [.data, .pinned], laidTests := true, laidLooks := .later }
def MorphologyMoreCardSaid : Prop := Claim7.holds Tryz.pinned (.plain (OpenSpec.ofChange morphologyMoreSpec)) morphologyMoreCard

/-- THE TIED CARD OF 'pentaglotlaw11.MorphologySyncretic'. -/
def morphologySyncreticCard : Claim7 := { stood := { row := morphologySyncreticRow, standIns := [], harness := (true, "4c8821cff4009e5203881bab25651143ded28a61e099881442d1039725ebaaee"), looks := false }, kinds := [], alts := [], laidByText := true, laidKinds := [.data, .pinned], laidTests := true, laidLooks := .later }
def MorphologySyncreticCardSaid : Prop := Claim7.holds Tryz.pinned (.plain (OpenSpec.ofChange morphologySyncreticSpec)) morphologySyncreticCard

/-- THE TIED CARD OF 'pentaglotlaw11.MorphologySurface'. -/
def morphologySurfaceCard : Claim7 := { stood := { row := morphologySurfaceRow, standIns := [], harness := (true, "4c8821cff4009e5203881bab25651143ded28a61e099881442d1039725ebaaee"), looks := false }, kinds := [], alts := [], laidByText := true, laidKinds := [.data, .pinned], laidTests := true, laidLooks := .later }
def MorphologySurfaceCardSaid : Prop := Claim7.holds Tryz.pinned (.plain (OpenSpec.ofChange morphologySurfaceSpec)) morphologySurfaceCard

/-- THE TIED CARD OF 'pentaglotlaw11.MorphologyForms'. -/
def morphologyFormsCard : Claim7 := { stood := { row := morphologyFormsRow, standIns := [], harness := (true, "4c8821cff4009e5203881bab25651143ded28a61e099881442d1039725ebaaee"), looks := false }, kinds := [], alts := [], laidByText := true, laidKinds := [.data, .pinned], laidTests := true, laidLooks := .later }
def MorphologyFormsCardSaid : Prop := Claim7.holds Tryz.pinned (.plain (OpenSpec.ofChange morphologyFormsSpec)) morphologyFormsCard

/-- THE TIED CARD OF 'pentaglotlaw11.MorphologyOneRelation'. -/
def morphologyOneRelationCard : Claim7 := { stood := { row := morphologyOneRelationRow, standIns := [], harness := (true, "4c8821cff4009e5203881bab25651143ded28a61e099881442d1039725ebaaee"), looks := false }, kinds := [], alts := [], laidByText := true, laidKinds := [.data, .pinned], laidTests := true, laidLooks := .later }
def MorphologyOneRelationCardSaid : Prop := Claim7.holds Tryz.pinned (.plain (OpenSpec.ofChange morphologyOneRelationSpec)) morphologyOneRelationCard

/-- THE SECOND FORM's CARD OF 'pentaglotlaw11.MorphologyCheck'. -/
def morphologyCheckUptoCard : Claim7 := { stood := { row := morphologyCheckUptoRow, standIns := [], harness := (true, "4c8821cff4009e5203881bab25651143ded28a61e099881442d1039725ebaaee"), looks := false }, kinds := [], alts := [], laidByText := true, laidKinds := [.data, .pinned], laidTests := true, laidLooks := .later }
def MorphologyCheckUptoCardSaid : Prop := Claim7.holds Tryz.pinned (.plain (OpenSpec.upto morphologyCheckSpec)) morphologyCheckUptoCard

/-- THE SECOND FORM's CARD OF 'pentaglotlaw11.MorphologyAnalyses'. -/
def morphologyAnalysesUptoCard : Claim7 := { stood := { row := morphologyAnalysesUptoRow, standIns := [], harness := (true, "4c8821cff4009e5203881bab25651143ded28a61e099881442d1039725ebaaee"), looks := false }, kinds := [], alts := [], laidByText := true, laidKinds := [.data, .pinned], laidTests := true, laidLooks := .later }
def MorphologyAnalysesUptoCardSaid : Prop := Claim7.holds Tryz.pinned (.plain (OpenSpec.upto morphologyAnalysesSpec)) morphologyAnalysesUptoCard

/-- THE SECOND FORM's CARD OF 'pentaglotlaw11.MorphologyAmbiguity'. -/
def morphologyAmbiguityUptoCard : Claim7 := { stood := { row := morphologyAmbiguityUptoRow, standIns := [], harness := (true, "4c8821cff4009e5203881bab25651143ded28a61e099881442d1039725ebaaee"), looks := false }, kinds := [], alts := [], laidByText := true, laidKinds := [.data, .pinned], laidTests := true, laidLooks := .later }
def MorphologyAmbiguityUptoCardSaid : Prop := Claim7.holds Tryz.pinned (.plain (OpenSpec.upto morphologyAmbiguitySpec)) morphologyAmbiguityUptoCard

/-- THE SECOND FORM's CARD OF 'pentaglotlaw11.MorphologyAll'. -/
def morphologyAllUptoCard : Claim7 := { stood := { row := morphologyAllUptoRow, standIns := [], harness := (true, "4c8821cff4009e5203881bab25651143ded28a61e099881442d1039725ebaaee"), looks := false }, kinds := [], alts := [], laidByText := true, laidKinds := [.data, .pinned], laidTests := true, laidLooks := .later }
def MorphologyAllUptoCardSaid : Prop := Claim7.holds Tryz.pinned (.plain (OpenSpec.upto morphologyAllSpec)) morphologyAllUptoCard

/-- THE SECOND FORM's CARD OF 'pentaglotlaw11.MorphologyMore'. -/
def morphologyMoreUptoCard : Claim7 := { stood := { row := morphologyMoreUptoRow, standIns := [], harness := (true, "4c8821cff4009e5203881bab25651143ded28a61e099881442d1039725ebaaee"), looks := false }, kinds := [], alts := [], laidByText := true, laidKinds := [.data, .pinned], laidTests := true, laidLooks := .later }
def MorphologyMoreUptoCardSaid : Prop := Claim7.holds Tryz.pinned (.plain (OpenSpec.upto morphologyMoreSpec)) morphologyMoreUptoCard

/-- THE SECOND FORM's CARD OF 'pentaglotlaw11.MorphologySyncretic'. -/
def morphologySyncreticUptoCard : Claim7 := { stood := { row := morphologySyncreticUptoRow, standIns := [], harness := (true, "4c8821cff4009e5203881bab25651143ded28a61e099881442d1039725ebaaee"), looks := false }, kinds := [], alts := [], laidByText := true, laidKinds := [.data, .pinned], laidTests := true, laidLooks := .later }
def MorphologySyncreticUptoCardSaid : Prop := Claim7.holds Tryz.pinned (.plain (OpenSpec.upto morphologySyncreticSpec)) morphologySyncreticUptoCard

/-- THE SECOND FORM's CARD OF 'pentaglotlaw11.MorphologySurface'. -/
def morphologySurfaceUptoCard : Claim7 := { stood := { row := morphologySurfaceUptoRow, standIns := [], harness := (true, "4c8821cff4009e5203881bab25651143ded28a61e099881442d1039725ebaaee"), looks := false }, kinds := [], alts := [], laidByText := true, laidKinds := [.data, .pinned], laidTests := true, laidLooks := .later }
def MorphologySurfaceUptoCardSaid : Prop := Claim7.holds Tryz.pinned (.plain (OpenSpec.upto morphologySurfaceSpec)) morphologySurfaceUptoCard

/-- THE SECOND FORM's CARD OF 'pentaglotlaw11.MorphologyForms'. -/
def morphologyFormsUptoCard : Claim7 := { stood := { row := morphologyFormsUptoRow, standIns := [], harness := (true, "4c8821cff4009e5203881bab25651143ded28a61e099881442d1039725ebaaee"), looks := false }, kinds := [], alts := [], laidByText := true, laidKinds := [.data, .pinned], laidTests := true, laidLooks := .later }
def MorphologyFormsUptoCardSaid : Prop := Claim7.holds Tryz.pinned (.plain (OpenSpec.upto morphologyFormsSpec)) morphologyFormsUptoCard

/-- THE SECOND FORM's CARD OF 'pentaglotlaw11.MorphologyOneRelation'. -/
def morphologyOneRelationUptoCard : Claim7 := { stood := { row := morphologyOneRelationUptoRow, standIns := [], harness := (true, "4c8821cff4009e5203881bab25651143ded28a61e099881442d1039725ebaaee"), looks := false }, kinds := [], alts := [], laidByText := true, laidKinds := [.data, .pinned], laidTests := true, laidLooks := .later }
def MorphologyOneRelationUptoCardSaid : Prop := Claim7.holds Tryz.pinned (.plain (OpenSpec.upto morphologyOneRelationSpec)) morphologyOneRelationUptoCard
end Rows
end Go.Proofs.YtcjihfnjccclgaaGreatDoor
