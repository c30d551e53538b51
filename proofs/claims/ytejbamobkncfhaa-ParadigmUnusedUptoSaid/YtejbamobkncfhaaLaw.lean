/- The law ParadigmUnused of the chapter on paradigms: whatever it is called with, it answers true, where what it reads is of bulk at most 1048576. -/
import Derived.Test.YtejbamobkncfhaaA0
import Derived.Test.YtejbamobkncfhaaA1
import Derived.Test.YtejbamobkncfhaaA2
import Derived.Test.YtejbamobkncfhaaA3
import Derived.Test.YtejbamobkncfhaaA4
import Derived.Test.YtejbamobkncfhaaA5
import Derived.Test.YtejbamobkncfhaaRows
import Derived.JoinedCond
import Derived.ProofKit
set_option linter.unusedVariables false
set_option linter.unusedSectionVars false
noncomputable section
namespace Go.Ai.Par
open Go Go.Ai Go.Proofs
noncomputable def sigs9 (M : Nat) : List (Nat × Sig E) := [(12, pentaglotlaw10_awake.sig M), (13, pentaglotlaw10_valid.sig M), (27, pentaglotref10_SamePairs.sig M), (28, paradigm_Unused.sig M), (29, pentaglotref10_Unused.sig M)]
noncomputable def rs9 (M : Nat) : List (Nat × Sig E) := []
noncomputable def its9 (M : Nat) : List (Nat × It E) := []
theorem sigs_ok9 (M : Nat) : SigsOk Try.prog (sigs9 M) := SigsOk.cons (pentaglotlaw10_awake.says M) (SigsOk.cons (pentaglotlaw10_valid.says M) (SigsOk.cons (pentaglotref10_SamePairs.says M) (SigsOk.cons (paradigm_Unused.says M) (SigsOk.cons (pentaglotref10_Unused.says M) (SigsOk.nil)))))
theorem rs_ok9 (M : Nat) : SigsOk Try.prog (rs9 M) := SigsOk.nil
theorem its_ok9 (M : Nat) : ItsOk Try.prog (its9 M) := ItsOk.nil
noncomputable def C9 (M : Nat) : Ctx E := { ti := fun t => tisE.lookup t, sig := fun f => (sigs9 M).lookup f, it := fun f => (its9 M).lookup f, nt := 27 }
theorem SigOk_C9 (M : Nat) : SigOk Try.prog (C9 M) := sigs_ok9 M
theorem RSigOk_C9 (M : Nat) : SigOk Try.prog ({ ti := fun _ => none, sig := fun f => (rs9 M).lookup f } : Ctx E) := rs_ok9 M
theorem ItOk_C9 (M : Nat) : ItOk Try.prog (C9 M) := (its_ok9 M).ok
namespace pentaglotlaw10_ParadigmUnused
noncomputable def plans : List (Option (Plan Nm)) := [none, none, none, none, none]
noncomputable abbrev body : Code := bodyOf Try.f9
def ps : List (Ty Nm) := [(.sl (.st .api_Letter)), (.st .api_Paradigm), (.sl (.sl (.st .api_Feature)))]
def rs : List (Ty Nm) := [.bool]
def ex : List (Option Nat) := [none]
noncomputable def inl : List (Nat × Nat × Nat × Inl Nm) := []
theorem inl_ok : InlsOk Try.prog inl := InlsOk.nil
noncomputable def X (M : Nat) : Ext E Bool := extOf (C9 M) (inlOf inl) (fun f => (rs9 M).lookup f) (fun _ _ _ => none) M 1
abbrev Rt := Bool
abbrev Zt := List Dir → St E → Option Rt
abbrev Ut := St E → Option Rt
noncomputable def s (M : Nat) (aa0_0 : (List api_Letter)) (pa1_0 : api_Paradigm) (inherenta2_0 : (List (List api_Feature))) : Option Rt :=
  Option.bind (pentaglotlaw10_awake M) fun r7_2 =>
  cond (!r7_2)
   (some false)
   (Option.bind (pentaglotlaw10_valid M aa0_0 pa1_0) fun r11_3 =>
    cond (!r11_3)
     (some true)
     (cond (decide (6 < (inherenta2_0.length : Int)))
       (some true)
       (Option.bind (paradigm_Unused M pa1_0 inherenta2_0) fun r21_4 =>
        Option.bind (pentaglotref10_Unused M pa1_0 inherenta2_0) fun r24_5 =>
        Option.bind (pentaglotref10_SamePairs M r21_4 r24_5) fun r25_6 =>
        some r25_6)))
end pentaglotlaw10_ParadigmUnused
noncomputable def pentaglotlaw10_ParadigmUnused (M : Nat) (aa0_0 : (List api_Letter)) (pa1_0 : api_Paradigm) (inherenta2_0 : (List (List api_Feature))) : Option Bool :=
  pentaglotlaw10_ParadigmUnused.s M aa0_0 pa1_0 inherenta2_0
namespace pentaglotlaw10_ParadigmUnused
noncomputable def K (M : Nat) : Cont E Bool := kRet (C9 M) Try.f9.results.toList rs ex
set_option maxRecDepth 100000
theorem g (M : Nat) (Z : Zt) (aa0_0 : (List api_Letter)) (pa1_0 : api_Paradigm) (inherenta2_0 : (List (List api_Feature))) : runZ (C9 M) (X M) Z body plans (start (argHs ps (aa0_0, pa1_0, inherenta2_0)) Try.f9.ntmps 27) (K M) = s M aa0_0 pa1_0 inherenta2_0 := by kernel_rfl
theorem run (M : Nat) (aa0_0 : (List api_Letter)) (pa1_0 : api_Paradigm) (inherenta2_0 : (List (List api_Feature))) : runF (rs := rs) (C9 M) (X M) M body Try.f9.ntmps 27 Try.f9.results.toList plans ps ex (aa0_0, pa1_0, inherenta2_0) = pentaglotlaw10_ParadigmUnused M aa0_0 pa1_0 inherenta2_0 := by
  refine Eq.trans (b := runC (C9 M) (X M) M body plans (start (argHs ps (aa0_0, pa1_0, inherenta2_0)) Try.f9.ntmps 27) (K M)) (by kernel_rfl) ?_
  refine (zrun body plans _ (K M) (fun _ => none) fun _ => rfl).symm.trans ?_
  refine (g M _ aa0_0 pa1_0 inherenta2_0).trans ?_
  rfl
noncomputable def sig (M : Nat) : Sig E := { ps := ps, rs := rs, ex := ex, fn := fun x => pentaglotlaw10_ParadigmUnused M x.1 x.2.1 x.2.2 }
theorem says (M : Nat) : callable Try.prog 9 = true ∧ ∀ x y, (sig M).fn x = some y → Says Try.prog 9 (sig M) x y := by
  refine ⟨by kernel_rfl, fun x y h => ?_⟩
  refine says_of_run (S := sig M) (C := C9 M) (X := X M) (M := M) (q := 27) (plans := plans) (COk_Try) (SigOk_C9 M) (ItOk_C9 M) (by kernel_rfl) (callOk_ext COk_Try (SigOk_C9 M) (ItOk_C9 M) (by kernel_rfl) inl_ok.ok (RSigOk_C9 M) M 1) (Try.func9) (body := body) (by kernel_rfl) (by kernel_rfl) ?_
  obtain ⟨aa0_0, pa1_0, inherenta2_0⟩ := x
  exact (run M aa0_0 pa1_0 inherenta2_0).trans h
end pentaglotlaw10_ParadigmUnused
end Go.Ai.Par
end
namespace Go.Ai.Par
open Go Go.Ai

theorem pentaglotlaw10_ParadigmUnused_plain (a : List api_Letter) (p : api_Paradigm) (inherent : List (List api_Feature)) (h : Z8 (.sl (.st .api_Letter)) a + (Z8 (.st .api_Paradigm) p + (Z8 (.sl (.sl (.st .api_Feature))) inherent)) ≤ 1048576) : pentaglotlaw10_ParadigmUnused 2097152 a p inherent = some true := by
  have hM : 1048576 < 2097152 := by omega
  have hM2 : 2097152 ≤ 1099511627776 := by omega
  have ha := z8_letters (B := 1048576) (by omega) (a := a) (by omega)
  obtain ⟨hp, hsz⟩ := z8_par (B := 1048576) (by omega) (p := p) (by omega)
  have hi := z8_recs (B := 1048576) (by omega) (r := inherent) (by omega)
  unfold pentaglotlaw10_ParadigmUnused pentaglotlaw10_ParadigmUnused.s
  rw [awake_eq hM hM2, law10_valid_eq hM ha hp]
  cases hv : okB 2097152 a p with
  | false => rfl
  | true =>
    obtain ⟨v1, v2, v3, v4, v5⟩ := okB_facts hv
    simp only [Option.bind_some, Bool.not_true, cond_false]
    have h64 : ∀ s ∈ p.fSlots, s.length ≤ 64 := fun s hs => by have := v5 s hs; omega
    rw [paradigm_Unused_eq hM hp.dims hp.slots v2 (by omega) h64 hi, ref10_Unused_eq hM hp.dims hp.slots (by omega) h64 hi]
    have hl := rowsU_length (usedS p.fDimensions p.fSlots inherent) p.fSlots 0 h64
    simp only [Option.bind_some, ref10_SamePairs_eq hM (show (rowsU (usedS p.fDimensions p.fSlots inherent) 0 p.fSlots).length ≤ 1048576 by omega)]
    cases decide ((6 : Int) < inherent.length) <;> simp

theorem pentaglotlaw10_ParadigmUnused_law (x : Tup E.Γ pentaglotlaw10_ParadigmUnused.ps) (_ : okTup (okD E 8) pentaglotlaw10_ParadigmUnused.ps x) (h : szTup (szD E 8) pentaglotlaw10_ParadigmUnused.ps x ≤ 1048576) : (pentaglotlaw10_ParadigmUnused.sig 2097152).fn x = some true := by
  obtain ⟨a, p, inherent⟩ := x
  exact pentaglotlaw10_ParadigmUnused_plain a p inherent h

end Go.Ai.Par
noncomputable section
namespace Go.Proofs.Ytejbamobkncfhaa
open Go Go.Ai Go.Ai.Par Go.RowKit Go.ChangeShapes
set_option maxRecDepth 100000
namespace ParadigmUnused

theorem bulkOk {H : Type} : BulkOk (H := H) Rows.uptoBulk Rows.uptoBulkAll where
  str := fun l => by simp [Rows.uptoBulk]
  lit := fun l => by cases l <;> simp [Rows.uptoBulk]
  nil := by simp [Rows.uptoBulk]
  slice := fun xs ys => by simp only [Rows.uptoBulk]; omega
  agg := fun xs => by simp only [Rows.uptoBulk]; omega
  cons := fun x xs => by simp only [Rows.uptoBulkAll]; omega

theorem bound {H : Type} {l : List (DataW H)} (hk : Rows.uptoSmall H l = true) : Rows.uptoBulkAll l ≤ 1048576 := of_decide_eq_true hk
def reads : List Nat := [2, 3, 9, 21, 113, 22, 23, 24, 26, 29, 31, 57, 58, 67, 69, 71, 115]
theorem own : ownKnob Try.prog.godebug = none := by kernel_rfl
theorem laid : laidOutB Try.prog = true := by kernel_rfl

theorem lifted (os : Os) (started : os.Started) (H : Type) (enc : TypeId × Value → H) (F : Stop.Interp) :
    ReturnsInHanded {} Try.checked os 9 .any ((Rows.OpenSpec.upto Rows.paradigmUnusedSpec).pre6 enc Try.prog Try.f9 Rows.paradigmUnusedUptoRow.domain false) (((Rows.OpenSpec.upto Rows.paradigmUnusedSpec).at F).post enc Try.prog Try.f9 false true false false) := by
  refine returnsInHanded_of_cond (C := Try.checked) (s := Rows.OpenSpec.upto Rows.paradigmUnusedSpec) (k := Rows.uptoSmall) rfl own started (by kernel_rfl) Try.func9
    (OpenSpec.witness (enc := enc) (C := Try.checked) (s := Rows.OpenSpec.upto Rows.paradigmUnusedSpec) (k := Rows.uptoSmall) rfl false ⟨#[], #[.slice none 0 0, .agg #[.string ⟨#[]⟩, .slice none 0 0, .slice none 0 0], .slice none 0 0], []⟩ 8 (by kernel_rfl) (by kernel_rfl) (by kernel_rfl)
      (x := ([.nil, .agg [.lit (.string []), .nil, .nil], .nil], [], [])) (by kernel_rfl) rfl (by kernel_rfl)) ?_
  intro W base args ds gs before hval hW _ hk _
  exact law_calls (COk_Try (sig := fun _ => none) (it := fun _ => none) (nt := 0) (r1 := []) (r2 := [])) (S := reads) (by kernel_rfl) (szD_ok 8) (okD_ok 8) laid (ps := pentaglotlaw10_ParadigmUnused.ps) (by kernel_rfl) (by kernel_rfl) (tb := 4) rfl (by kernel_rfl) (F := (pentaglotlaw10_ParadigmUnused.sig 2097152).fn)
    (pentaglotlaw10_ParadigmUnused.says 2097152).2 pentaglotlaw10_ParadigmUnused_law rfl (fun ds h => match ds, h with | [_, _, _], _ => rfl) hval hW bulkOk (bound hk)

theorem said : Rows.ParadigmUnusedUptoSaid :=
  OpenClaim.holds_of_cond 9 Try.f9 rfl rfl rfl rfl rfl rfl rfl ⟨rfl, rfl, rfl, rfl, rfl⟩ rfl rfl rfl rfl rfl (by kernel_rfl) Try.func9 (by kernel_rfl)
    (of_decide_eq_true (by kernel_rfl)) (by unfold Func.isWrapper; first | (rw [if_pos (by decide +kernel)]; kernel_rfl) | (rw [if_neg (by decide +kernel)]; exact ⟨rfl, rfl⟩))
    (fun os started H enc _ F => lifted os started H enc F)

end ParadigmUnused
end Go.Proofs.Ytejbamobkncfhaa
end
