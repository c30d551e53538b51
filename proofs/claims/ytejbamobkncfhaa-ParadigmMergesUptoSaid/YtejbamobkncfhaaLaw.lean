/- The law ParadigmMerges of the chapter on paradigms: whatever it is called with, it answers true, where what it reads is of bulk at most 1048576. -/
import Derived.Test.YtejbamobkncfhaaA0
import Derived.Test.YtejbamobkncfhaaA1
import Derived.Test.YtejbamobkncfhaaA2
import Derived.Test.YtejbamobkncfhaaA3
import Derived.Test.YtejbamobkncfhaaA4
import Derived.Test.YtejbamobkncfhaaA5
import Derived.Test.YtejbamobkncfhaaRows
import Derived.JoinedCond
import Derived.ProofKit
set_option linter.unusedVariables false
set_option linter.unusedSectionVars false
noncomputable section
namespace Go.Ai.Par
open Go Go.Ai Go.Proofs
noncomputable def sigs5 (M : Nat) : List (Nat × Sig E) := [(12, pentaglotlaw10_awake.sig M), (13, pentaglotlaw10_valid.sig M), (17, pentaglotref02_Same.sig M), (20, paradigm_Merge.sig M), (21, pentaglotref10_Merge.sig M)]
noncomputable def rs5 (M : Nat) : List (Nat × Sig E) := []
noncomputable def its5 (M : Nat) : List (Nat × It E) := []
theorem sigs_ok5 (M : Nat) : SigsOk Try.prog (sigs5 M) := SigsOk.cons (pentaglotlaw10_awake.says M) (SigsOk.cons (pentaglotlaw10_valid.says M) (SigsOk.cons (pentaglotref02_Same.says M) (SigsOk.cons (paradigm_Merge.says M) (SigsOk.cons (pentaglotref10_Merge.says M) (SigsOk.nil)))))
theorem rs_ok5 (M : Nat) : SigsOk Try.prog (rs5 M) := SigsOk.nil
theorem its_ok5 (M : Nat) : ItsOk Try.prog (its5 M) := ItsOk.nil
noncomputable def C5 (M : Nat) : Ctx E := { ti := fun t => tisE.lookup t, sig := fun f => (sigs5 M).lookup f, it := fun f => (its5 M).lookup f, nt := 41 }
theorem SigOk_C5 (M : Nat) : SigOk Try.prog (C5 M) := sigs_ok5 M
theorem RSigOk_C5 (M : Nat) : SigOk Try.prog ({ ti := fun _ => none, sig := fun f => (rs5 M).lookup f } : Ctx E) := rs_ok5 M
theorem ItOk_C5 (M : Nat) : ItOk Try.prog (C5 M) := (its_ok5 M).ok
namespace pentaglotlaw10_ParadigmMerges
noncomputable def plans : List (Option (Plan Nm)) := [none, none, none, none, none, none, none, none, none, none]
noncomputable abbrev body : Code := bodyOf Try.f5
def ps : List (Ty Nm) := [(.sl (.st .api_Letter)), (.st .api_Paradigm), (.sl (.st .api_Feature)), (.sl (.st .api_Feature))]
def rs : List (Ty Nm) := [.bool]
def ex : List (Option Nat) := [none]
noncomputable def inl : List (Nat × Nat × Nat × Inl Nm) := []
theorem inl_ok : InlsOk Try.prog inl := InlsOk.nil
noncomputable def X (M : Nat) : Ext E Bool := extOf (C5 M) (inlOf inl) (fun f => (rs5 M).lookup f) (fun _ _ _ => none) M 1
abbrev Rt := Bool
abbrev Zt := List Dir → St E → Option Rt
abbrev Ut := St E → Option Rt
noncomputable def s (M : Nat) (aa0_0 : (List api_Letter)) (pa1_0 : api_Paradigm) (cella2_0 : (List api_Feature)) (inherenta3_0 : (List api_Feature)) : Option Rt :=
  Option.bind (pentaglotlaw10_awake M) fun r13_2 =>
  cond (!r13_2)
   (some false)
   (Option.bind (pentaglotlaw10_valid M aa0_0 pa1_0) fun r17_4 =>
    cond (!r17_4)
     (some true)
     (Option.bind (paradigm_Merge M pa1_0 cella2_0 inherenta3_0) fun r23_5 =>
      Option.bind (pentaglotref10_Merge M pa1_0 cella2_0 inherenta3_0) fun r30_6 =>
      cond (decide (r23_5.2 = r30_6.2))
       (Option.bind (pentaglotref02_Same M r23_5.1 r30_6.1) fun r39_7 =>
        some r39_7)
       (some false)))
end pentaglotlaw10_ParadigmMerges
noncomputable def pentaglotlaw10_ParadigmMerges (M : Nat) (aa0_0 : (List api_Letter)) (pa1_0 : api_Paradigm) (cella2_0 : (List api_Feature)) (inherenta3_0 : (List api_Feature)) : Option Bool :=
  pentaglotlaw10_ParadigmMerges.s M aa0_0 pa1_0 cella2_0 inherenta3_0
namespace pentaglotlaw10_ParadigmMerges
noncomputable def K (M : Nat) : Cont E Bool := kRet (C5 M) Try.f5.results.toList rs ex
set_option maxRecDepth 100000
theorem g (M : Nat) (Z : Zt) (aa0_0 : (List api_Letter)) (pa1_0 : api_Paradigm) (cella2_0 : (List api_Feature)) (inherenta3_0 : (List api_Feature)) : runZ (C5 M) (X M) Z body plans (start (argHs ps (aa0_0, pa1_0, cella2_0, inherenta3_0)) Try.f5.ntmps 41) (K M) = s M aa0_0 pa1_0 cella2_0 inherenta3_0 := by kernel_rfl
theorem run (M : Nat) (aa0_0 : (List api_Letter)) (pa1_0 : api_Paradigm) (cella2_0 : (List api_Feature)) (inherenta3_0 : (List api_Feature)) : runF (rs := rs) (C5 M) (X M) M body Try.f5.ntmps 41 Try.f5.results.toList plans ps ex (aa0_0, pa1_0, cella2_0, inherenta3_0) = pentaglotlaw10_ParadigmMerges M aa0_0 pa1_0 cella2_0 inherenta3_0 := by
  refine Eq.trans (b := runC (C5 M) (X M) M body plans (start (argHs ps (aa0_0, pa1_0, cella2_0, inherenta3_0)) Try.f5.ntmps 41) (K M)) (by kernel_rfl) ?_
  refine (zrun body plans _ (K M) (fun _ => none) fun _ => rfl).symm.trans ?_
  refine (g M _ aa0_0 pa1_0 cella2_0 inherenta3_0).trans ?_
  rfl
noncomputable def sig (M : Nat) : Sig E := { ps := ps, rs := rs, ex := ex, fn := fun x => pentaglotlaw10_ParadigmMerges M x.1 x.2.1 x.2.2.1 x.2.2.2 }
theorem says (M : Nat) : callable Try.prog 5 = true ∧ ∀ x y, (sig M).fn x = some y → Says Try.prog 5 (sig M) x y := by
  refine ⟨by kernel_rfl, fun x y h => ?_⟩
  refine says_of_run (S := sig M) (C := C5 M) (X := X M) (M := M) (q := 41) (plans := plans) (COk_Try) (SigOk_C5 M) (ItOk_C5 M) (by kernel_rfl) (callOk_ext COk_Try (SigOk_C5 M) (ItOk_C5 M) (by kernel_rfl) inl_ok.ok (RSigOk_C5 M) M 1) (Try.func5) (body := body) (by kernel_rfl) (by kernel_rfl) ?_
  obtain ⟨aa0_0, pa1_0, cella2_0, inherenta3_0⟩ := x
  exact (run M aa0_0 pa1_0 cella2_0 inherenta3_0).trans h
end pentaglotlaw10_ParadigmMerges
end Go.Ai.Par
end
namespace Go.Ai.Par
open Go Go.Ai

theorem pentaglotlaw10_ParadigmMerges_plain (a : List api_Letter) (p : api_Paradigm) (cell : List api_Feature) (inherent : List api_Feature) (h : Z8 (.sl (.st .api_Letter)) a + (Z8 (.st .api_Paradigm) p + (Z8 (.sl (.st .api_Feature)) cell + (Z8 (.sl (.st .api_Feature)) inherent))) ≤ 1048576) : pentaglotlaw10_ParadigmMerges 2097152 a p cell inherent = some true := by
  have hM : 1048576 < 2097152 := by omega
  have hM2 : 2097152 ≤ 1099511627776 := by omega
  have ha := z8_letters (B := 1048576) (by omega) (a := a) (by omega)
  obtain ⟨hp, hsz⟩ := z8_par (B := 1048576) (by omega) (p := p) (by omega)
  obtain ⟨hcr, _⟩ := z8_rec (B := 1048576) (by omega) (r := cell) (by omega)
  obtain ⟨hir, _⟩ := z8_rec (B := 1048576) (by omega) (r := inherent) (by omega)
  unfold pentaglotlaw10_ParadigmMerges pentaglotlaw10_ParadigmMerges.s
  have hm : (pairOf (mergeS p.fDimensions cell inherent)).1.length ≤ 1048576 := by
    cases hm : mergeS p.fDimensions cell inherent with
    | none => simp [pairOf]
    | some y => have := (merge_asc hm).2; simp only [pairOf, Option.getD_some]; omega
  rw [awake_eq hM hM2, law10_valid_eq hM ha hp, paradigm_Merge_eq hM hp.dims hcr.1 hir, ref10_Merge_eq hM hp.dims hir]
  simp only [Option.bind_some, ref02_Same_eq hM hm]
  simp

theorem pentaglotlaw10_ParadigmMerges_law (x : Tup E.Γ pentaglotlaw10_ParadigmMerges.ps) (_ : okTup (okD E 8) pentaglotlaw10_ParadigmMerges.ps x) (h : szTup (szD E 8) pentaglotlaw10_ParadigmMerges.ps x ≤ 1048576) : (pentaglotlaw10_ParadigmMerges.sig 2097152).fn x = some true := by
  obtain ⟨a, p, cell, inherent⟩ := x
  exact pentaglotlaw10_ParadigmMerges_plain a p cell inherent h

end Go.Ai.Par
noncomputable section
namespace Go.Proofs.Ytejbamobkncfhaa
open Go Go.Ai Go.Ai.Par Go.RowKit Go.ChangeShapes
set_option maxRecDepth 100000
namespace ParadigmMerges

theorem bulkOk {H : Type} : BulkOk (H := H) Rows.uptoBulk Rows.uptoBulkAll where
  str := fun l => by simp [Rows.uptoBulk]
  lit := fun l => by cases l <;> simp [Rows.uptoBulk]
  nil := by simp [Rows.uptoBulk]
  slice := fun xs ys => by simp only [Rows.uptoBulk]; omega
  agg := fun xs => by simp only [Rows.uptoBulk]; omega
  cons := fun x xs => by simp only [Rows.uptoBulkAll]; omega

theorem bound {H : Type} {l : List (DataW H)} (hk : Rows.uptoSmall H l = true) : Rows.uptoBulkAll l ≤ 1048576 := of_decide_eq_true hk
def reads : List Nat := [2, 9, 21, 113, 22, 23, 24, 26, 31, 57, 58, 67, 69, 71, 115]
theorem own : ownKnob Try.prog.godebug = none := by kernel_rfl
theorem laid : laidOutB Try.prog = true := by kernel_rfl

theorem lifted (os : Os) (started : os.Started) (H : Type) (enc : TypeId × Value → H) (F : Stop.Interp) :
    ReturnsInHanded {} Try.checked os 5 .any ((Rows.OpenSpec.upto Rows.paradigmMergesSpec).pre6 enc Try.prog Try.f5 Rows.paradigmMergesUptoRow.domain false) (((Rows.OpenSpec.upto Rows.paradigmMergesSpec).at F).post enc Try.prog Try.f5 false true false false) := by
  refine returnsInHanded_of_cond (C := Try.checked) (s := Rows.OpenSpec.upto Rows.paradigmMergesSpec) (k := Rows.uptoSmall) rfl own started (by kernel_rfl) Try.func5
    (OpenSpec.witness (enc := enc) (C := Try.checked) (s := Rows.OpenSpec.upto Rows.paradigmMergesSpec) (k := Rows.uptoSmall) rfl false ⟨#[], #[.slice none 0 0, .agg #[.string ⟨#[]⟩, .slice none 0 0, .slice none 0 0], .slice none 0 0, .slice none 0 0], []⟩ 8 (by kernel_rfl) (by kernel_rfl) (by kernel_rfl)
      (x := ([.nil, .agg [.lit (.string []), .nil, .nil], .nil, .nil], [], [])) (by kernel_rfl) rfl (by kernel_rfl)) ?_
  intro W base args ds gs before hval hW _ hk _
  exact law_calls (COk_Try (sig := fun _ => none) (it := fun _ => none) (nt := 0) (r1 := []) (r2 := [])) (S := reads) (by kernel_rfl) (szD_ok 8) (okD_ok 8) laid (ps := pentaglotlaw10_ParadigmMerges.ps) (by kernel_rfl) (by kernel_rfl) (tb := 4) rfl (by kernel_rfl) (F := (pentaglotlaw10_ParadigmMerges.sig 2097152).fn)
    (pentaglotlaw10_ParadigmMerges.says 2097152).2 pentaglotlaw10_ParadigmMerges_law rfl (fun ds h => match ds, h with | [_, _, _, _], _ => rfl) hval hW bulkOk (bound hk)

theorem said : Rows.ParadigmMergesUptoSaid :=
  OpenClaim.holds_of_cond 5 Try.f5 rfl rfl rfl rfl rfl rfl rfl ⟨rfl, rfl, rfl, rfl, rfl⟩ rfl rfl rfl rfl rfl (by kernel_rfl) Try.func5 (by kernel_rfl)
    (of_decide_eq_true (by kernel_rfl)) (by unfold Func.isWrapper; first | (rw [if_pos (by decide +kernel)]; kernel_rfl) | (rw [if_neg (by decide +kernel)]; exact ⟨rfl, rfl⟩))
    (fun os started H enc _ F => lifted os started H enc F)

end ParadigmMerges
end Go.Proofs.Ytejbamobkncfhaa
end
