/-
  No cell of these rows narrows 'for every input' (looked for: loops, veiled, ifaces, maps, wideKeys, modest, calm, conditions, laid).
  DERIVED. THE GIVEN ROWS OF THIS SEAT. 9 by the template 'for every input the law returns true; each argument reads behind the call as it read before'; 0 by the template 'total and deterministic' (their statements: YtejbamobkncfhaaTotals.lean).
  GIVEN WITH THE SEED: the statements are not yours to turn. If you find one false, say at which input.
  Laid BY PROGRAM, IN A SANDBOX (cutbox-rows.mjs): the forced cells as the released guide's own fill.sh prints them over the translation d8f98e45d90ef430… (all of the seat's roots in one cut). By AI agents, Wed Nov 11 2026. No macro, syntax, notation, axiom, sorry.
-/
import Derived.Test.YtejbamobkncfhaaChecked
import GoSem.Claim
import GoSem.ClaimJoined
import GoSem.ClaimMapViews
import Derived.JoinedTies
import Derived.KernelRfl
namespace Go.Proofs.Ytejbamobkncfhaa
/- THE CELL 'sum', in the pinned program and in every row, IS THE sha256 OF THE DUMP (.gsa) THAT YtejbamobkncfhaaProg.lean LOADS. Nothing in Lean hashes anything: it is a label: what it is worth is what the hold of that sum in a sandbox is worth. -/
noncomputable def Try.pinned : Pinned := { name := "ytejbamobkncfhaa", sum := "d8f98e45d90ef430751a699654dbf62c51af4ad7a01e4bd84ccf0934b1b27f08", checked := Try.checked }
namespace Rows
def none {H : Type} : Left H := { results := [], args := [] }

/-- 'pentaglotlaw10.ParadigmCells': WHATEVER THE INPUT: true; the input reads as it did. -/
def paradigmCellsSpec : ChangeSpec := { name := "paradigmCells", fn := fun _ => fun
  | [d1, d2, d3] => { results := [.lit (.bool true)], args := [d1, d2, d3] }
  | _ => none }
def paradigmCellsRow : OpenClaim := { program := "ytejbamobkncfhaa", sum := "d8f98e45d90ef430751a699654dbf62c51af4ad7a01e4bd84ccf0934b1b27f08", func := "pentaglot/pentaglotlaw10.ParadigmCells", spec := "paradigmCells", unfollowed := true, recurses := true, plainKeys := false, apart := false }
def ParadigmCellsSaid : Prop := paradigmCellsRow.holds Try.pinned (OpenSpec.ofChange paradigmCellsSpec)

/-- ITS FALSE NEIGHBOUR: 'it returns false'. Refute it at one input. -/
def paradigmCellsWrong : ChangeSpec := { name := "paradigmCells", fn := fun _ => fun
  | [d1, d2, d3] => { results := [.lit (.bool false)], args := [d1, d2, d3] }
  | _ => none }
def ParadigmCellsWrongFalsely : Prop := paradigmCellsRow.holds Try.pinned (OpenSpec.ofChange paradigmCellsWrong)

/-- 'pentaglotlaw10.ParadigmNumbers': WHATEVER THE INPUT: true; the input reads as it did. -/
def paradigmNumbersSpec : ChangeSpec := { name := "paradigmNumbers", fn := fun _ => fun
  | [d1, d2, d3] => { results := [.lit (.bool true)], args := [d1, d2, d3] }
  | _ => none }
def paradigmNumbersRow : OpenClaim := { program := "ytejbamobkncfhaa", sum := "d8f98e45d90ef430751a699654dbf62c51af4ad7a01e4bd84ccf0934b1b27f08", func := "pentaglot/pentaglotlaw10.ParadigmNumbers", spec := "paradigmNumbers", unfollowed := true, recurses := true, plainKeys := false, apart := false }
def ParadigmNumbersSaid : Prop := paradigmNumbersRow.holds Try.pinned (OpenSpec.ofChange paradigmNumbersSpec)

/-- ITS FALSE NEIGHBOUR: 'it returns false'. Refute it at one input. -/
def paradigmNumbersWrong : ChangeSpec := { name := "paradigmNumbers", fn := fun _ => fun
  | [d1, d2, d3] => { results := [.lit (.bool false)], args := [d1, d2, d3] }
  | _ => none }
def ParadigmNumbersWrongFalsely : Prop := paradigmNumbersRow.holds Try.pinned (OpenSpec.ofChange paradigmNumbersWrong)

/-- 'pentaglotlaw10.ParadigmMerges': WHATEVER THE INPUT: true; the input reads as it did. -/
def paradigmMergesSpec : ChangeSpec := { name := "paradigmMerges", fn := fun _ => fun
  | [d1, d2, d3, d4] => { results := [.lit (.bool true)], args := [d1, d2, d3, d4] }
  | _ => none }
def paradigmMergesRow : OpenClaim := { program := "ytejbamobkncfhaa", sum := "d8f98e45d90ef430751a699654dbf62c51af4ad7a01e4bd84ccf0934b1b27f08", func := "pentaglot/pentaglotlaw10.ParadigmMerges", spec := "paradigmMerges", unfollowed := true, recurses := true, plainKeys := false, apart := false }
def ParadigmMergesSaid : Prop := paradigmMergesRow.holds Try.pinned (OpenSpec.ofChange paradigmMergesSpec)

/-- ITS FALSE NEIGHBOUR: 'it returns false'. Refute it at one input. -/
def paradigmMergesWrong : ChangeSpec := { name := "paradigmMerges", fn := fun _ => fun
  | [d1, d2, d3, d4] => { results := [.lit (.bool false)], args := [d1, d2, d3, d4] }
  | _ => none }
def ParadigmMergesWrongFalsely : Prop := paradigmMergesRow.holds Try.pinned (OpenSpec.ofChange paradigmMergesWrong)

/-- 'pentaglotlaw10.ParadigmChooses': WHATEVER THE INPUT: true; the input reads as it did. -/
def paradigmChoosesSpec : ChangeSpec := { name := "paradigmChooses", fn := fun _ => fun
  | [d1, d2, d3, d4] => { results := [.lit (.bool true)], args := [d1, d2, d3, d4] }
  | _ => none }
def paradigmChoosesRow : OpenClaim := { program := "ytejbamobkncfhaa", sum := "d8f98e45d90ef430751a699654dbf62c51af4ad7a01e4bd84ccf0934b1b27f08", func := "pentaglot/pentaglotlaw10.ParadigmChooses", spec := "paradigmChooses", unfollowed := true, recurses := true, plainKeys := false, apart := false }
def ParadigmChoosesSaid : Prop := paradigmChoosesRow.holds Try.pinned (OpenSpec.ofChange paradigmChoosesSpec)

/-- ITS FALSE NEIGHBOUR: 'it returns false'. Refute it at one input. -/
def paradigmChoosesWrong : ChangeSpec := { name := "paradigmChooses", fn := fun _ => fun
  | [d1, d2, d3, d4] => { results := [.lit (.bool false)], args := [d1, d2, d3, d4] }
  | _ => none }
def ParadigmChoosesWrongFalsely : Prop := paradigmChoosesRow.holds Try.pinned (OpenSpec.ofChange paradigmChoosesWrong)

/-- 'pentaglotlaw10.ParadigmForms': WHATEVER THE INPUT: true; the input reads as it did. -/
def paradigmFormsSpec : ChangeSpec := { name := "paradigmForms", fn := fun _ => fun
  | [d1, d2, d3, d4, d5] => { results := [.lit (.bool true)], args := [d1, d2, d3, d4, d5] }
  | _ => none }
def paradigmFormsRow : OpenClaim := { program := "ytejbamobkncfhaa", sum := "d8f98e45d90ef430751a699654dbf62c51af4ad7a01e4bd84ccf0934b1b27f08", func := "pentaglot/pentaglotlaw10.ParadigmForms", spec := "paradigmForms", unfollowed := true, recurses := true, plainKeys := false, apart := false }
def ParadigmFormsSaid : Prop := paradigmFormsRow.holds Try.pinned (OpenSpec.ofChange paradigmFormsSpec)

/-- ITS FALSE NEIGHBOUR: 'it returns false'. Refute it at one input. -/
def paradigmFormsWrong : ChangeSpec := { name := "paradigmForms", fn := fun _ => fun
  | [d1, d2, d3, d4, d5] => { results := [.lit (.bool false)], args := [d1, d2, d3, d4, d5] }
  | _ => none }
def ParadigmFormsWrongFalsely : Prop := paradigmFormsRow.holds Try.pinned (OpenSpec.ofChange paradigmFormsWrong)

/-- 'pentaglotlaw10.ParadigmWraps': WHATEVER THE INPUT: true; the input reads as it did. -/
def paradigmWrapsSpec : ChangeSpec := { name := "paradigmWraps", fn := fun _ => fun
  | [d1, d2, d3, d4, d5, d6] => { results := [.lit (.bool true)], args := [d1, d2, d3, d4, d5, d6] }
  | _ => none }
def paradigmWrapsRow : OpenClaim := { program := "ytejbamobkncfhaa", sum := "d8f98e45d90ef430751a699654dbf62c51af4ad7a01e4bd84ccf0934b1b27f08", func := "pentaglot/pentaglotlaw10.ParadigmWraps", spec := "paradigmWraps", unfollowed := true, recurses := true, plainKeys := false, apart := false }
def ParadigmWrapsSaid : Prop := paradigmWrapsRow.holds Try.pinned (OpenSpec.ofChange paradigmWrapsSpec)

/-- ITS FALSE NEIGHBOUR: 'it returns false'. Refute it at one input. -/
def paradigmWrapsWrong : ChangeSpec := { name := "paradigmWraps", fn := fun _ => fun
  | [d1, d2, d3, d4, d5, d6] => { results := [.lit (.bool false)], args := [d1, d2, d3, d4, d5, d6] }
  | _ => none }
def ParadigmWrapsWrongFalsely : Prop := paradigmWrapsRow.holds Try.pinned (OpenSpec.ofChange paradigmWrapsWrong)

/-- 'pentaglotlaw10.ParadigmUnused': WHATEVER THE INPUT: true; the input reads as it did. -/
def paradigmUnusedSpec : ChangeSpec := { name := "paradigmUnused", fn := fun _ => fun
  | [d1, d2, d3] => { results := [.lit (.bool true)], args := [d1, d2, d3] }
  | _ => none }
def paradigmUnusedRow : OpenClaim := { program := "ytejbamobkncfhaa", sum := "d8f98e45d90ef430751a699654dbf62c51af4ad7a01e4bd84ccf0934b1b27f08", func := "pentaglot/pentaglotlaw10.ParadigmUnused", spec := "paradigmUnused", unfollowed := true, recurses := true, plainKeys := false, apart := false }
def ParadigmUnusedSaid : Prop := paradigmUnusedRow.holds Try.pinned (OpenSpec.ofChange paradigmUnusedSpec)

/-- ITS FALSE NEIGHBOUR: 'it returns false'. Refute it at one input. -/
def paradigmUnusedWrong : ChangeSpec := { name := "paradigmUnused", fn := fun _ => fun
  | [d1, d2, d3] => { results := [.lit (.bool false)], args := [d1, d2, d3] }
  | _ => none }
def ParadigmUnusedWrongFalsely : Prop := paradigmUnusedRow.holds Try.pinned (OpenSpec.ofChange paradigmUnusedWrong)

/-- 'pentaglotlaw10.ParadigmUses': WHATEVER THE INPUT: true; the input reads as it did. -/
def paradigmUsesSpec : ChangeSpec := { name := "paradigmUses", fn := fun _ => fun
  | [d1, d2, d3, d4, d5] => { results := [.lit (.bool true)], args := [d1, d2, d3, d4, d5] }
  | _ => none }
def paradigmUsesRow : OpenClaim := { program := "ytejbamobkncfhaa", sum := "d8f98e45d90ef430751a699654dbf62c51af4ad7a01e4bd84ccf0934b1b27f08", func := "pentaglot/pentaglotlaw10.ParadigmUses", spec := "paradigmUses", unfollowed := true, recurses := true, plainKeys := false, apart := false }
def ParadigmUsesSaid : Prop := paradigmUsesRow.holds Try.pinned (OpenSpec.ofChange paradigmUsesSpec)

/-- ITS FALSE NEIGHBOUR: 'it returns false'. Refute it at one input. -/
def paradigmUsesWrong : ChangeSpec := { name := "paradigmUses", fn := fun _ => fun
  | [d1, d2, d3, d4, d5] => { results := [.lit (.bool false)], args := [d1, d2, d3, d4, d5] }
  | _ => none }
def ParadigmUsesWrongFalsely : Prop := paradigmUsesRow.holds Try.pinned (OpenSpec.ofChange paradigmUsesWrong)

/-- 'pentaglotlaw10.ParadigmShadows': WHATEVER THE INPUT: true; the input reads as it did. -/
def paradigmShadowsSpec : ChangeSpec := { name := "paradigmShadows", fn := fun _ => fun
  | [d1, d2, d3, d4, d5, d6] => { results := [.lit (.bool true)], args := [d1, d2, d3, d4, d5, d6] }
  | _ => none }
def paradigmShadowsRow : OpenClaim := { program := "ytejbamobkncfhaa", sum := "d8f98e45d90ef430751a699654dbf62c51af4ad7a01e4bd84ccf0934b1b27f08", func := "pentaglot/pentaglotlaw10.ParadigmShadows", spec := "paradigmShadows", unfollowed := true, recurses := true, plainKeys := false, apart := false }
def ParadigmShadowsSaid : Prop := paradigmShadowsRow.holds Try.pinned (OpenSpec.ofChange paradigmShadowsSpec)

/-- ITS FALSE NEIGHBOUR: 'it returns false'. Refute it at one input. -/
def paradigmShadowsWrong : ChangeSpec := { name := "paradigmShadows", fn := fun _ => fun
  | [d1, d2, d3, d4, d5, d6] => { results := [.lit (.bool false)], args := [d1, d2, d3, d4, d5, d6] }
  | _ => none }
def ParadigmShadowsWrongFalsely : Prop := paradigmShadowsRow.holds Try.pinned (OpenSpec.ofChange paradigmShadowsWrong)

/- THE SECOND FORM. 'bulk': how many values and letters a reading holds, each counted each time it is reached (what is shared counts as often as it is met; a slice's spare places count too). A statement '..UptoSaid' is the law's where the arguments, and the package variables that the reading takes, are together of bulk at most 1048576: NARROWER than '..Said'. Prove '..Said' where nothing that the law and all that it calls make is longer than what came in: it says more and counts as full. Else prove '..UptoSaid'. A law counts once. -/
mutual
def uptoBulk {H : Type} : DataW H → Nat
  | .lit (.string bytes) => bytes.length + 1
  | .lit _ => 1
  | .nil => 1
  | .ptr d => uptoBulk d + 1
  | .slice elems spare => uptoBulkAll elems + uptoBulkAll spare + 1
  | .agg parts => uptoBulkAll parts + 1
  | .iface _ d => uptoBulk d + 1
  | .map entries => uptoBulkEntries entries + 1
  | .held _ => 1
def uptoBulkAll {H : Type} : List (DataW H) → Nat
  | [] => 0
  | d :: r => uptoBulk d + uptoBulkAll r
def uptoBulkEntries {H : Type} : List (Lit × DataW H) → Nat
  | [] => 0
  | x :: r => uptoBulkEntry x + uptoBulkEntries r
def uptoBulkEntry {H : Type} : Lit × DataW H → Nat
  | (.string bytes, d) => bytes.length + uptoBulk d + 1
  | (_, d) => uptoBulk d + 1
 end
def uptoSmall : (H : Type) → List (DataW H) → Bool := fun _ ds => decide (uptoBulkAll ds ≤ 1048576)
def OpenSpec.upto (s : _root_.Go.ChangeSpec) : _root_.Go.OpenSpec := { _root_.Go.OpenSpec.ofChange s with cond := some uptoSmall }

/-- 'pentaglotlaw10.ParadigmCells', WHERE WHAT IT READS IS OF BULK AT MOST 1048576: true; the input reads as it did. -/
def paradigmCellsUptoRow : OpenClaim := { program := "ytejbamobkncfhaa", sum := "d8f98e45d90ef430751a699654dbf62c51af4ad7a01e4bd84ccf0934b1b27f08", func := "pentaglot/pentaglotlaw10.ParadigmCells", spec := "paradigmCells", unfollowed := true, recurses := true, plainKeys := false, apart := false, narrowed := true }
def ParadigmCellsUptoSaid : Prop := paradigmCellsUptoRow.holds Try.pinned (OpenSpec.upto paradigmCellsSpec)

/-- 'pentaglotlaw10.ParadigmNumbers', WHERE WHAT IT READS IS OF BULK AT MOST 1048576: true; the input reads as it did. -/
def paradigmNumbersUptoRow : OpenClaim := { program := "ytejbamobkncfhaa", sum := "d8f98e45d90ef430751a699654dbf62c51af4ad7a01e4bd84ccf0934b1b27f08", func := "pentaglot/pentaglotlaw10.ParadigmNumbers", spec := "paradigmNumbers", unfollowed := true, recurses := true, plainKeys := false, apart := false, narrowed := true }
def ParadigmNumbersUptoSaid : Prop := paradigmNumbersUptoRow.holds Try.pinned (OpenSpec.upto paradigmNumbersSpec)

/-- 'pentaglotlaw10.ParadigmMerges', WHERE WHAT IT READS IS OF BULK AT MOST 1048576: true; the input reads as it did. -/
def paradigmMergesUptoRow : OpenClaim := { program := "ytejbamobkncfhaa", sum := "d8f98e45d90ef430751a699654dbf62c51af4ad7a01e4bd84ccf0934b1b27f08", func := "pentaglot/pentaglotlaw10.ParadigmMerges", spec := "paradigmMerges", unfollowed := true, recurses := true, plainKeys := false, apart := false, narrowed := true }
def ParadigmMergesUptoSaid : Prop := paradigmMergesUptoRow.holds Try.pinned (OpenSpec.upto paradigmMergesSpec)

/-- 'pentaglotlaw10.ParadigmChooses', WHERE WHAT IT READS IS OF BULK AT MOST 1048576: true; the input reads as it did. -/
def paradigmChoosesUptoRow : OpenClaim := { program := "ytejbamobkncfhaa", sum := "d8f98e45d90ef430751a699654dbf62c51af4ad7a01e4bd84ccf0934b1b27f08", func := "pentaglot/pentaglotlaw10.ParadigmChooses", spec := "paradigmChooses", unfollowed := true, recurses := true, plainKeys := false, apart := false, narrowed := true }
def ParadigmChoosesUptoSaid : Prop := paradigmChoosesUptoRow.holds Try.pinned (OpenSpec.upto paradigmChoosesSpec)

/-- 'pentaglotlaw10.ParadigmForms', WHERE WHAT IT READS IS OF BULK AT MOST 1048576: true; the input reads as it did. -/
def paradigmFormsUptoRow : OpenClaim := { program := "ytejbamobkncfhaa", sum := "d8f98e45d90ef430751a699654dbf62c51af4ad7a01e4bd84ccf0934b1b27f08", func := "pentaglot/pentaglotlaw10.ParadigmForms", spec := "paradigmForms", unfollowed := true, recurses := true, plainKeys := false, apart := false, narrowed := true }
def ParadigmFormsUptoSaid : Prop := paradigmFormsUptoRow.holds Try.pinned (OpenSpec.upto paradigmFormsSpec)

/-- 'pentaglotlaw10.ParadigmWraps', WHERE WHAT IT READS IS OF BULK AT MOST 1048576: true; the input reads as it did. -/
def paradigmWrapsUptoRow : OpenClaim := { program := "ytejbamobkncfhaa", sum := "d8f98e45d90ef430751a699654dbf62c51af4ad7a01e4bd84ccf0934b1b27f08", func := "pentaglot/pentaglotlaw10.ParadigmWraps", spec := "paradigmWraps", unfollowed := true, recurses := true, plainKeys := false, apart := false, narrowed := true }
def ParadigmWrapsUptoSaid : Prop := paradigmWrapsUptoRow.holds Try.pinned (OpenSpec.upto paradigmWrapsSpec)

/-- 'pentaglotlaw10.ParadigmUnused', WHERE WHAT IT READS IS OF BULK AT MOST 1048576: true; the input reads as it did. -/
def paradigmUnusedUptoRow : OpenClaim := { program := "ytejbamobkncfhaa", sum := "d8f98e45d90ef430751a699654dbf62c51af4ad7a01e4bd84ccf0934b1b27f08", func := "pentaglot/pentaglotlaw10.ParadigmUnused", spec := "paradigmUnused", unfollowed := true, recurses := true, plainKeys := false, apart := false, narrowed := true }
def ParadigmUnusedUptoSaid : Prop := paradigmUnusedUptoRow.holds Try.pinned (OpenSpec.upto paradigmUnusedSpec)

/-- 'pentaglotlaw10.ParadigmUses', WHERE WHAT IT READS IS OF BULK AT MOST 1048576: true; the input reads as it did. -/
def paradigmUsesUptoRow : OpenClaim := { program := "ytejbamobkncfhaa", sum := "d8f98e45d90ef430751a699654dbf62c51af4ad7a01e4bd84ccf0934b1b27f08", func := "pentaglot/pentaglotlaw10.ParadigmUses", spec := "paradigmUses", unfollowed := true, recurses := true, plainKeys := false, apart := false, narrowed := true }
def ParadigmUsesUptoSaid : Prop := paradigmUsesUptoRow.holds Try.pinned (OpenSpec.upto paradigmUsesSpec)

/-- 'pentaglotlaw10.ParadigmShadows', WHERE WHAT IT READS IS OF BULK AT MOST 1048576: true; the input reads as it did. -/
def paradigmShadowsUptoRow : OpenClaim := { program := "ytejbamobkncfhaa", sum := "d8f98e45d90ef430751a699654dbf62c51af4ad7a01e4bd84ccf0934b1b27f08", func := "pentaglot/pentaglotlaw10.ParadigmShadows", spec := "paradigmShadows", unfollowed := true, recurses := true, plainKeys := false, apart := false, narrowed := true }
def ParadigmShadowsUptoSaid : Prop := paradigmShadowsUptoRow.holds Try.pinned (OpenSpec.upto paradigmShadowsSpec)

end Rows
end Go.Proofs.Ytejbamobkncfhaa
