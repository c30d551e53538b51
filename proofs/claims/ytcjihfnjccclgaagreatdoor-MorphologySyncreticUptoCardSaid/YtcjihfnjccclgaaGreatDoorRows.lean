/-
  NARROWER THAN 'FOR EVERY INPUT', by the rows' own cells (each row's printed sentence says how): MorphologyCheck: laid · MorphologyAnalyses: laid · MorphologyAmbiguity: laid · MorphologyAll: laid · MorphologyMore: laid · MorphologySyncretic: laid · MorphologySurface: laid · MorphologyForms: laid · MorphologyOneRelation: laid.
  DERIVED. THE GIVEN ROWS OF THIS SEAT. 9 by the template 'for every input the law returns true; each argument reads behind the call as it read before'; 0 by the template 'total and deterministic' (their statements: YtcjihfnjccclgaaGreatDoorTotals.lean).
  GIVEN WITH THE SEED: the statements are not yours to turn. If you find one false, say at which input.
  Laid BY PROGRAM, IN A SANDBOX (cutbox-rows.mjs): the forced cells as the released guide's own fill.sh prints them over the translation b08d6aae9703ee7f… (all of the seat's roots in one cut). By AI agents, Wed Nov 11 2026. No macro, syntax, notation, axiom, sorry.
-/
import Derived.Test.YtcjihfnjccclgaaGreatDoorChecked
import GoSem.PinnedTables
import GoSem.Claim
import GoSem.ClaimJoined
import GoSem.ClaimMapViews
import Derived.JoinedTies
import Derived.KernelRfl
namespace Go.Proofs.YtcjihfnjccclgaaGreatDoor
/- THE CELL 'sum', in the pinned program and in every row, IS THE sha256 OF THE DUMP (.gsa) THAT YtcjihfnjccclgaaGreatDoorProg.lean LOADS. Nothing in Lean hashes anything: it is a label: what it is worth is what the hold of that sum in a sandbox is worth. -/
noncomputable def Tryz.pinned : Pinned := { name := "ytcjihfnjccclgaagreatdoor", sum := "b08d6aae9703ee7f6f282cb14787e06fc8e0a329b91bf85e27da966c1f9952dd", checked := Tryz.checked }
namespace Rows
def none {H : Type} : Left H := { results := [], args := [] }

/- WHAT THE LISTED PACKAGE-LEVEL VARIABLES READ AS WHEN THE CALL BEGINS. Each datum BY PROGRAM (the guide's laid-datum.mjs) off the statement by which the dump's own 'gosem.cut.vars' lays the variable. In a bare row this is a premise. The card (YtcjihfnjccclgaaGreatDoorCards.lean) ties it to the program's text. -/
def laid_unicode_utf8_acceptRanges {H : Type} : DataW H := .agg [.agg [.lit (.int .u8 128), .lit (.int .u8 191)], .agg [.lit (.int .u8 160), .lit (.int .u8 191)], .agg [.lit (.int .u8 128), .lit (.int .u8 159)], .agg [.lit (.int .u8 144), .lit (.int .u8 191)], .agg [.lit (.int .u8 128), .lit (.int .u8 143)], .agg [.lit (.int .u8 0), .lit (.int .u8 0)], .agg [.lit (.int .u8 0), .lit (.int .u8 0)], .agg [.lit (.int .u8 0), .lit (.int .u8 0)], .agg [.lit (.int .u8 0), .lit (.int .u8 0)], .agg [.lit (.int .u8 0), .lit (.int .u8 0)], .agg [.lit (.int .u8 0), .lit (.int .u8 0)], .agg [.lit (.int .u8 0), .lit (.int .u8 0)], .agg [.lit (.int .u8 0), .lit (.int .u8 0)], .agg [.lit (.int .u8 0), .lit (.int .u8 0)], .agg [.lit (.int .u8 0), .lit (.int .u8 0)], .agg [.lit (.int .u8 0), .lit (.int .u8 0)]]
/-- One of Go's own tables, pinned by name: the form's constant. -/
def laid_unicode_utf8_first : DataW Unit := Go.Pinned.utf8First

/-- 'pentaglotlaw11.MorphologyCheck': WHATEVER THE INPUT: true; the input reads as it did. -/
def morphologyCheckSpec : ChangeSpec := { name := "morphologyCheck", fn := fun _ => fun
  | [d] => { results := [.lit (.bool true)], args := [d] }
  | _ => none }
def morphologyCheckRow : OpenClaim := { program := "ytcjihfnjccclgaagreatdoor", sum := "b08d6aae9703ee7f6f282cb14787e06fc8e0a329b91bf85e27da966c1f9952dd", func := "pentaglot/pentaglotlaw11.MorphologyCheck", spec := "morphologyCheck", unfollowed := true, recurses := true, named := ["unicode/utf8.first", "unicode/utf8.acceptRanges"], apart := false, laid := [("unicode/utf8.acceptRanges", laid_unicode_utf8_acceptRanges), ("unicode/utf8.first", laid_unicode_utf8_first)] }
def MorphologyCheckSaid : Prop := morphologyCheckRow.holds Tryz.pinned (OpenSpec.ofChange morphologyCheckSpec)

/-- ITS FALSE NEIGHBOUR: 'it returns false'. Refute it at one input. -/
def morphologyCheckWrong : ChangeSpec := { name := "morphologyCheck", fn := fun _ => fun
  | [d] => { results := [.lit (.bool false)], args := [d] }
  | _ => none }
def MorphologyCheckWrongFalsely : Prop := morphologyCheckRow.holds Tryz.pinned (OpenSpec.ofChange morphologyCheckWrong)

/-- 'pentaglotlaw11.MorphologyAnalyses': WHATEVER THE INPUT: true; the input reads as it did. -/
def morphologyAnalysesSpec : ChangeSpec := { name := "morphologyAnalyses", fn := fun _ => fun
  | [d1, d2] => { results := [.lit (.bool true)], args := [d1, d2] }
  | _ => none }
def morphologyAnalysesRow : OpenClaim := { program := "ytcjihfnjccclgaagreatdoor", sum := "b08d6aae9703ee7f6f282cb14787e06fc8e0a329b91bf85e27da966c1f9952dd", func := "pentaglot/pentaglotlaw11.MorphologyAnalyses", spec := "morphologyAnalyses", unfollowed := true, recurses := true, named := ["unicode/utf8.first", "unicode/utf8.acceptRanges"], apart := false, laid := [("unicode/utf8.acceptRanges", laid_unicode_utf8_acceptRanges), ("unicode/utf8.first", laid_unicode_utf8_first)] }
def MorphologyAnalysesSaid : Prop := morphologyAnalysesRow.holds Tryz.pinned (OpenSpec.ofChange morphologyAnalysesSpec)

/-- ITS FALSE NEIGHBOUR: 'it returns false'. Refute it at one input. -/
def morphologyAnalysesWrong : ChangeSpec := { name := "morphologyAnalyses", fn := fun _ => fun
  | [d1, d2] => { results := [.lit (.bool false)], args := [d1, d2] }
  | _ => none }
def MorphologyAnalysesWrongFalsely : Prop := morphologyAnalysesRow.holds Tryz.pinned (OpenSpec.ofChange morphologyAnalysesWrong)

/-- 'pentaglotlaw11.MorphologyAmbiguity': WHATEVER THE INPUT: true; the input reads as it did. -/
def morphologyAmbiguitySpec : ChangeSpec := { name := "morphologyAmbiguity", fn := fun _ => fun
  | [d1, d2] => { results := [.lit (.bool true)], args := [d1, d2] }
  | _ => none }
def morphologyAmbiguityRow : OpenClaim := { program := "ytcjihfnjccclgaagreatdoor", sum := "b08d6aae9703ee7f6f282cb14787e06fc8e0a329b91bf85e27da966c1f9952dd", func := "pentaglot/pentaglotlaw11.MorphologyAmbiguity", spec := "morphologyAmbiguity", unfollowed := true, recurses := true, named := ["unicode/utf8.first", "unicode/utf8.acceptRanges"], apart := false, laid := [("unicode/utf8.acceptRanges", laid_unicode_utf8_acceptRanges), ("unicode/utf8.first", laid_unicode_utf8_first)] }
def MorphologyAmbiguitySaid : Prop := morphologyAmbiguityRow.holds Tryz.pinned (OpenSpec.ofChange morphologyAmbiguitySpec)

/-- ITS FALSE NEIGHBOUR: 'it returns false'. Refute it at one input. -/
def morphologyAmbiguityWrong : ChangeSpec := { name := "morphologyAmbiguity", fn := fun _ => fun
  | [d1, d2] => { results := [.lit (.bool false)], args := [d1, d2] }
  | _ => none }
def MorphologyAmbiguityWrongFalsely : Prop := morphologyAmbiguityRow.holds Tryz.pinned (OpenSpec.ofChange morphologyAmbiguityWrong)

/-- 'pentaglotlaw11.MorphologyAll': WHATEVER THE INPUT: true; the input reads as it did. -/
def morphologyAllSpec : ChangeSpec := { name := "morphologyAll", fn := fun _ => fun
  | [d1, d2] => { results := [.lit (.bool true)], args := [d1, d2] }
  | _ => none }
def morphologyAllRow : OpenClaim := { program := "ytcjihfnjccclgaagreatdoor", sum := "b08d6aae9703ee7f6f282cb14787e06fc8e0a329b91bf85e27da966c1f9952dd", func := "pentaglot/pentaglotlaw11.MorphologyAll", spec := "morphologyAll", unfollowed := true, recurses := true, named := ["unicode/utf8.first", "unicode/utf8.acceptRanges"], apart := false, laid := [("unicode/utf8.acceptRanges", laid_unicode_utf8_acceptRanges), ("unicode/utf8.first", laid_unicode_utf8_first)] }
def MorphologyAllSaid : Prop := morphologyAllRow.holds Tryz.pinned (OpenSpec.ofChange morphologyAllSpec)

/-- ITS FALSE NEIGHBOUR: 'it returns false'. Refute it at one input. -/
def morphologyAllWrong : ChangeSpec := { name := "morphologyAll", fn := fun _ => fun
  | [d1, d2] => { results := [.lit (.bool false)], args := [d1, d2] }
  | _ => none }
def MorphologyAllWrongFalsely : Prop := morphologyAllRow.holds Tryz.pinned (OpenSpec.ofChange morphologyAllWrong)

/-- 'pentaglotlaw11.MorphologyMore': WHATEVER THE INPUT: true; the input reads as it did. -/
def morphologyMoreSpec : ChangeSpec := { name := "morphologyMore", fn := fun _ => fun
  | [d1, d2, d3] => { results := [.lit (.bool true)], args := [d1, d2, d3] }
  | _ => none }
def morphologyMoreRow : OpenClaim := { program := "ytcjihfnjccclgaagreatdoor", sum := "b08d6aae9703ee7f6f282cb14787e06fc8e0a329b91bf85e27da966c1f9952dd", func := "pentaglot/pentaglotlaw11.MorphologyMore", spec := "morphologyMore", unfollowed := true, recurses := true, named := ["unicode/utf8.first", "unicode/utf8.acceptRanges"], apart := false, laid := [("unicode/utf8.acceptRanges", laid_unicode_utf8_acceptRanges), ("unicode/utf8.first", laid_unicode_utf8_first)] }
def MorphologyMoreSaid : Prop := morphologyMoreRow.holds Tryz.pinned (OpenSpec.ofChange morphologyMoreSpec)

/-- ITS FALSE NEIGHBOUR: 'it returns false'. Refute it at one input. -/
def morphologyMoreWrong : ChangeSpec := { name := "morphologyMore", fn := fun _ => fun
  | [d1, d2, d3] => { results := [.lit (.bool false)], args := [d1, d2, d3] }
  | _ => none }
def MorphologyMoreWrongFalsely : Prop := morphologyMoreRow.holds Tryz.pinned (OpenSpec.ofChange morphologyMoreWrong)

/-- 'pentaglotlaw11.MorphologySyncretic': WHATEVER THE INPUT: true; the input reads as it did. -/
def morphologySyncreticSpec : ChangeSpec := { name := "morphologySyncretic", fn := fun _ => fun
  | [d1, d2] => { results := [.lit (.bool true)], args := [d1, d2] }
  | _ => none }
def morphologySyncreticRow : OpenClaim := { program := "ytcjihfnjccclgaagreatdoor", sum := "b08d6aae9703ee7f6f282cb14787e06fc8e0a329b91bf85e27da966c1f9952dd", func := "pentaglot/pentaglotlaw11.MorphologySyncretic", spec := "morphologySyncretic", unfollowed := true, recurses := true, named := ["unicode/utf8.first", "unicode/utf8.acceptRanges"], apart := false, laid := [("unicode/utf8.acceptRanges", laid_unicode_utf8_acceptRanges), ("unicode/utf8.first", laid_unicode_utf8_first)] }
def MorphologySyncreticSaid : Prop := morphologySyncreticRow.holds Tryz.pinned (OpenSpec.ofChange morphologySyncreticSpec)

/-- ITS FALSE NEIGHBOUR: 'it returns false'. Refute it at one input. -/
def morphologySyncreticWrong : ChangeSpec := { name := "morphologySyncretic", fn := fun _ => fun
  | [d1, d2] => { results := [.lit (.bool false)], args := [d1, d2] }
  | _ => none }
def MorphologySyncreticWrongFalsely : Prop := morphologySyncreticRow.holds Tryz.pinned (OpenSpec.ofChange morphologySyncreticWrong)

/-- 'pentaglotlaw11.MorphologySurface': WHATEVER THE INPUT: true; the input reads as it did. -/
def morphologySurfaceSpec : ChangeSpec := { name := "morphologySurface", fn := fun _ => fun
  | [d1, d2, d3] => { results := [.lit (.bool true)], args := [d1, d2, d3] }
  | _ => none }
def morphologySurfaceRow : OpenClaim := { program := "ytcjihfnjccclgaagreatdoor", sum := "b08d6aae9703ee7f6f282cb14787e06fc8e0a329b91bf85e27da966c1f9952dd", func := "pentaglot/pentaglotlaw11.MorphologySurface", spec := "morphologySurface", unfollowed := true, recurses := true, named := ["unicode/utf8.first", "unicode/utf8.acceptRanges"], apart := false, laid := [("unicode/utf8.acceptRanges", laid_unicode_utf8_acceptRanges), ("unicode/utf8.first", laid_unicode_utf8_first)] }
def MorphologySurfaceSaid : Prop := morphologySurfaceRow.holds Tryz.pinned (OpenSpec.ofChange morphologySurfaceSpec)

/-- ITS FALSE NEIGHBOUR: 'it returns false'. Refute it at one input. -/
def morphologySurfaceWrong : ChangeSpec := { name := "morphologySurface", fn := fun _ => fun
  | [d1, d2, d3] => { results := [.lit (.bool false)], args := [d1, d2, d3] }
  | _ => none }
def MorphologySurfaceWrongFalsely : Prop := morphologySurfaceRow.holds Tryz.pinned (OpenSpec.ofChange morphologySurfaceWrong)

/-- 'pentaglotlaw11.MorphologyForms': WHATEVER THE INPUT: true; the input reads as it did. -/
def morphologyFormsSpec : ChangeSpec := { name := "morphologyForms", fn := fun _ => fun
  | [d1, d2] => { results := [.lit (.bool true)], args := [d1, d2] }
  | _ => none }
def morphologyFormsRow : OpenClaim := { program := "ytcjihfnjccclgaagreatdoor", sum := "b08d6aae9703ee7f6f282cb14787e06fc8e0a329b91bf85e27da966c1f9952dd", func := "pentaglot/pentaglotlaw11.MorphologyForms", spec := "morphologyForms", unfollowed := true, recurses := true, named := ["unicode/utf8.first", "unicode/utf8.acceptRanges"], apart := false, laid := [("unicode/utf8.acceptRanges", laid_unicode_utf8_acceptRanges), ("unicode/utf8.first", laid_unicode_utf8_first)] }
def MorphologyFormsSaid : Prop := morphologyFormsRow.holds Tryz.pinned (OpenSpec.ofChange morphologyFormsSpec)

/-- ITS FALSE NEIGHBOUR: 'it returns false'. Refute it at one input. -/
def morphologyFormsWrong : ChangeSpec := { name := "morphologyForms", fn := fun _ => fun
  | [d1, d2] => { results := [.lit (.bool false)], args := [d1, d2] }
  | _ => none }
def MorphologyFormsWrongFalsely : Prop := morphologyFormsRow.holds Tryz.pinned (OpenSpec.ofChange morphologyFormsWrong)

/-- 'pentaglotlaw11.MorphologyOneRelation': WHATEVER THE INPUT: true; the input reads as it did. -/
def morphologyOneRelationSpec : ChangeSpec := { name := "morphologyOneRelation", fn := fun _ => fun
  | [d1, d2, d3, d4] => { results := [.lit (.bool true)], args := [d1, d2, d3, d4] }
  | _ => none }
def morphologyOneRelationRow : OpenClaim := { program := "ytcjihfnjccclgaagreatdoor", sum := "b08d6aae9703ee7f6f282cb14787e06fc8e0a329b91bf85e27da966c1f9952dd", func := "pentaglot/pentaglotlaw11.MorphologyOneRelation", spec := "morphologyOneRelation", unfollowed := true, recurses := true, named := ["unicode/utf8.first", "unicode/utf8.acceptRanges"], apart := false, laid := [("unicode/utf8.acceptRanges", laid_unicode_utf8_acceptRanges), ("unicode/utf8.first", laid_unicode_utf8_first)] }
def MorphologyOneRelationSaid : Prop := morphologyOneRelationRow.holds Tryz.pinned (OpenSpec.ofChange morphologyOneRelationSpec)

/-- ITS FALSE NEIGHBOUR: 'it returns false'. Refute it at one input. -/
def morphologyOneRelationWrong : ChangeSpec := { name := "morphologyOneRelation", fn := fun _ => fun
  | [d1, d2, d3, d4] => { results := [.lit (.bool false)], args := [d1, d2, d3, d4] }
  | _ => none }
def MorphologyOneRelationWrongFalsely : Prop := morphologyOneRelationRow.holds Tryz.pinned (OpenSpec.ofChange morphologyOneRelationWrong)

/- THE SECOND FORM. 'bulk': how many values and letters a reading holds, each counted each time it is reached (what is shared counts as often as it is met; a slice's spare places count too). A statement '..UptoSaid' is the law's where the arguments, and the package variables that the reading takes, are together of bulk at most 1048576: NARROWER than '..Said'. Prove '..Said' where nothing that the law and all that it calls make is longer than what came in: it says more and counts as full. Else prove '..UptoSaid'. A law counts once. -/
mutual
def uptoBulk {H : Type} : DataW H → Nat
  | .lit (.string bytes) => bytes.length + 1
  | .lit _ => 1
  | .nil => 1
  | .ptr d => uptoBulk d + 1
  | .slice elems spare => uptoBulkAll elems + uptoBulkAll spare + 1
  | .agg parts => uptoBulkAll parts + 1
  | .iface _ d => uptoBulk d + 1
  | .map entries => uptoBulkEntries entries + 1
  | .held _ => 1
def uptoBulkAll {H : Type} : List (DataW H) → Nat
  | [] => 0
  | d :: r => uptoBulk d + uptoBulkAll r
def uptoBulkEntries {H : Type} : List (Lit × DataW H) → Nat
  | [] => 0
  | x :: r => uptoBulkEntry x + uptoBulkEntries r
def uptoBulkEntry {H : Type} : Lit × DataW H → Nat
  | (.string bytes, d) => bytes.length + uptoBulk d + 1
  | (_, d) => uptoBulk d + 1
 end
def uptoSmall : (H : Type) → List (DataW H) → Bool := fun _ ds => decide (uptoBulkAll ds ≤ 1048576)
def OpenSpec.upto (s : _root_.Go.ChangeSpec) : _root_.Go.OpenSpec := { _root_.Go.OpenSpec.ofChange s with cond := some uptoSmall }

/-- 'pentaglotlaw11.MorphologyCheck', WHERE WHAT IT READS IS OF BULK AT MOST 1048576: true; the input reads as it did. -/
def morphologyCheckUptoRow : OpenClaim := { program := "ytcjihfnjccclgaagreatdoor", sum := "b08d6aae9703ee7f6f282cb14787e06fc8e0a329b91bf85e27da966c1f9952dd", func := "pentaglot/pentaglotlaw11.MorphologyCheck", spec := "morphologyCheck", unfollowed := true, recurses := true, named := ["unicode/utf8.first", "unicode/utf8.acceptRanges"], apart := false, laid := [("unicode/utf8.acceptRanges", laid_unicode_utf8_acceptRanges), ("unicode/utf8.first", laid_unicode_utf8_first)], narrowed := true }
def MorphologyCheckUptoSaid : Prop := morphologyCheckUptoRow.holds Tryz.pinned (OpenSpec.upto morphologyCheckSpec)

/-- 'pentaglotlaw11.MorphologyAnalyses', WHERE WHAT IT READS IS OF BULK AT MOST 1048576: true; the input reads as it did. -/
def morphologyAnalysesUptoRow : OpenClaim := { program := "ytcjihfnjccclgaagreatdoor", sum := "b08d6aae9703ee7f6f282cb14787e06fc8e0a329b91bf85e27da966c1f9952dd", func := "pentaglot/pentaglotlaw11.MorphologyAnalyses", spec := "morphologyAnalyses", unfollowed := true, recurses := true, named := ["unicode/utf8.first", "unicode/utf8.acceptRanges"], apart := false, laid := [("unicode/utf8.acceptRanges", laid_unicode_utf8_acceptRanges), ("unicode/utf8.first", laid_unicode_utf8_first)], narrowed := true }
def MorphologyAnalysesUptoSaid : Prop := morphologyAnalysesUptoRow.holds Tryz.pinned (OpenSpec.upto morphologyAnalysesSpec)

/-- 'pentaglotlaw11.MorphologyAmbiguity', WHERE WHAT IT READS IS OF BULK AT MOST 1048576: true; the input reads as it did. -/
def morphologyAmbiguityUptoRow : OpenClaim := { program := "ytcjihfnjccclgaagreatdoor", sum := "b08d6aae9703ee7f6f282cb14787e06fc8e0a329b91bf85e27da966c1f9952dd", func := "pentaglot/pentaglotlaw11.MorphologyAmbiguity", spec := "morphologyAmbiguity", unfollowed := true, recurses := true, named := ["unicode/utf8.first", "unicode/utf8.acceptRanges"], apart := false, laid := [("unicode/utf8.acceptRanges", laid_unicode_utf8_acceptRanges), ("unicode/utf8.first", laid_unicode_utf8_first)], narrowed := true }
def MorphologyAmbiguityUptoSaid : Prop := morphologyAmbiguityUptoRow.holds Tryz.pinned (OpenSpec.upto morphologyAmbiguitySpec)

/-- 'pentaglotlaw11.MorphologyAll', WHERE WHAT IT READS IS OF BULK AT MOST 1048576: true; the input reads as it did. -/
def morphologyAllUptoRow : OpenClaim := { program := "ytcjihfnjccclgaagreatdoor", sum := "b08d6aae9703ee7f6f282cb14787e06fc8e0a329b91bf85e27da966c1f9952dd", func := "pentaglot/pentaglotlaw11.MorphologyAll", spec := "morphologyAll", unfollowed := true, recurses := true, named := ["unicode/utf8.first", "unicode/utf8.acceptRanges"], apart := false, laid := [("unicode/utf8.acceptRanges", laid_unicode_utf8_acceptRanges), ("unicode/utf8.first", laid_unicode_utf8_first)], narrowed := true }
def MorphologyAllUptoSaid : Prop := morphologyAllUptoRow.holds Tryz.pinned (OpenSpec.upto morphologyAllSpec)

/-- 'pentaglotlaw11.MorphologyMore', WHERE WHAT IT READS IS OF BULK AT MOST 1048576: true; the input reads as it did. -/
def morphologyMoreUptoRow : OpenClaim := { program := "ytcjihfnjccclgaagreatdoor", sum := "b08d6aae9703ee7f6f282cb14787e06fc8e0a329b91bf85e27da966c1f9952dd", func := "pentaglot/pentaglotlaw11.MorphologyMore", spec := "morphologyMore", unfollowed := true, recurses := true, named := ["unicode/utf8.first", "unicode/utf8.acceptRanges"], apart := false, laid := [("unicode/utf8.acceptRanges", laid_unicode_utf8_acceptRanges), ("unicode/utf8.first", laid_unicode_utf8_first)], narrowed := true }
def MorphologyMoreUptoSaid : Prop := morphologyMoreUptoRow.holds Tryz.pinned (OpenSpec.upto morphologyMoreSpec)

/-- 'pentaglotlaw11.MorphologySyncretic', WHERE WHAT IT READS IS OF BULK AT MOST 1048576: true; the input reads as it did. -/
def morphologySyncreticUptoRow : OpenClaim := { program := "ytcjihfnjccclgaagreatdoor", sum := "b08d6aae9703ee7f6f282cb14787e06fc8e0a329b91bf85e27da966c1f9952dd", func := "pentaglot/pentaglotlaw11.MorphologySyncretic", spec := "morphologySyncretic", unfollowed := true, recurses := true, named := ["unicode/utf8.first", "unicode/utf8.acceptRanges"], apart := false, laid := [("unicode/utf8.acceptRanges", laid_unicode_utf8_acceptRanges), ("unicode/utf8.first", laid_unicode_utf8_first)], narrowed := true }
def MorphologySyncreticUptoSaid : Prop := morphologySyncreticUptoRow.holds Tryz.pinned (OpenSpec.upto morphologySyncreticSpec)

/-- 'pentaglotlaw11.MorphologySurface', WHERE WHAT IT READS IS OF BULK AT MOST 1048576: true; the input reads as it did. -/
def morphologySurfaceUptoRow : OpenClaim := { program := "ytcjihfnjccclgaagreatdoor", sum := "b08d6aae9703ee7f6f282cb14787e06fc8e0a329b91bf85e27da966c1f9952dd", func := "pentaglot/pentaglotlaw11.MorphologySurface", spec := "morphologySurface", unfollowed := true, recurses := true, named := ["unicode/utf8.first", "unicode/utf8.acceptRanges"], apart := false, laid := [("unicode/utf8.acceptRanges", laid_unicode_utf8_acceptRanges), ("unicode/utf8.first", laid_unicode_utf8_first)], narrowed := true }
def MorphologySurfaceUptoSaid : Prop := morphologySurfaceUptoRow.holds Tryz.pinned (OpenSpec.upto morphologySurfaceSpec)

/-- 'pentaglotlaw11.MorphologyForms', WHERE WHAT IT READS IS OF BULK AT MOST 1048576: true; the input reads as it did. -/
def morphologyFormsUptoRow : OpenClaim := { program := "ytcjihfnjccclgaagreatdoor", sum := "b08d6aae9703ee7f6f282cb14787e06fc8e0a329b91bf85e27da966c1f9952dd", func := "pentaglot/pentaglotlaw11.MorphologyForms", spec := "morphologyForms", unfollowed := true, recurses := true, named := ["unicode/utf8.first", "unicode/utf8.acceptRanges"], apart := false, laid := [("unicode/utf8.acceptRanges", laid_unicode_utf8_acceptRanges), ("unicode/utf8.first", laid_unicode_utf8_first)], narrowed := true }
def MorphologyFormsUptoSaid : Prop := morphologyFormsUptoRow.holds Tryz.pinned (OpenSpec.upto morphologyFormsSpec)

/-- 'pentaglotlaw11.MorphologyOneRelation', WHERE WHAT IT READS IS OF BULK AT MOST 1048576: true; the input reads as it did. -/
def morphologyOneRelationUptoRow : OpenClaim := { program := "ytcjihfnjccclgaagreatdoor", sum := "b08d6aae9703ee7f6f282cb14787e06fc8e0a329b91bf85e27da966c1f9952dd", func := "pentaglot/pentaglotlaw11.MorphologyOneRelation", spec := "morphologyOneRelation", unfollowed := true, recurses := true, named := ["unicode/utf8.first", "unicode/utf8.acceptRanges"], apart := false, laid := [("unicode/utf8.acceptRanges", laid_unicode_utf8_acceptRanges), ("unicode/utf8.first", laid_unicode_utf8_first)], narrowed := true }
def MorphologyOneRelationUptoSaid : Prop := morphologyOneRelationUptoRow.holds Tryz.pinned (OpenSpec.upto morphologyOneRelationSpec)

end Rows
end Go.Proofs.YtcjihfnjccclgaaGreatDoor
