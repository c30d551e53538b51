/- The law ParadigmForms of the chapter on paradigms: whatever it is called with, it answers true, where what it reads is of bulk at most 1048576. -/
import Derived.Test.YtejbamobkncfhaaA0
import Derived.Test.YtejbamobkncfhaaA1
import Derived.Test.YtejbamobkncfhaaA2
import Derived.Test.YtejbamobkncfhaaA3
import Derived.Test.YtejbamobkncfhaaA4
import Derived.Test.YtejbamobkncfhaaA5
import Derived.Test.YtejbamobkncfhaaRows
import Derived.JoinedCond
import Derived.ProofKit
set_option linter.unusedVariables false
set_option linter.unusedSectionVars false
noncomputable section
namespace Go.Ai.Par
open Go Go.Ai Go.Proofs
noncomputable def sigs7 (M : Nat) : List (Nat × Sig E) := [(12, pentaglotlaw10_awake.sig M), (13, pentaglotlaw10_valid.sig M), (25, paradigm_Underlying.sig M), (26, pentaglotref10_Underlying.sig M)]
noncomputable def rs7 (M : Nat) : List (Nat × Sig E) := []
noncomputable def its7 (M : Nat) : List (Nat × It E) := []
theorem sigs_ok7 (M : Nat) : SigsOk Try.prog (sigs7 M) := SigsOk.cons (pentaglotlaw10_awake.says M) (SigsOk.cons (pentaglotlaw10_valid.says M) (SigsOk.cons (paradigm_Underlying.says M) (SigsOk.cons (pentaglotref10_Underlying.says M) (SigsOk.nil))))
theorem rs_ok7 (M : Nat) : SigsOk Try.prog (rs7 M) := SigsOk.nil
theorem its_ok7 (M : Nat) : ItsOk Try.prog (its7 M) := ItsOk.nil
noncomputable def C7 (M : Nat) : Ctx E := { ti := fun t => tisE.lookup t, sig := fun f => (sigs7 M).lookup f, it := fun f => (its7 M).lookup f, nt := 50 }
theorem SigOk_C7 (M : Nat) : SigOk Try.prog (C7 M) := sigs_ok7 M
theorem RSigOk_C7 (M : Nat) : SigOk Try.prog ({ ti := fun _ => none, sig := fun f => (rs7 M).lookup f } : Ctx E) := rs_ok7 M
theorem ItOk_C7 (M : Nat) : ItOk Try.prog (C7 M) := (its_ok7 M).ok
namespace pentaglotlaw10_ParadigmForms
noncomputable def plans : List (Option (Plan Nm)) := [none, none, none, none, none, none, none, none, none, none]
noncomputable abbrev body : Code := bodyOf Try.f7
def ps : List (Ty Nm) := [(.sl (.st .api_Letter)), (.st .api_Paradigm), .str, (.sl (.st .api_Feature)), (.sl (.st .api_Feature))]
def rs : List (Ty Nm) := [.bool]
def ex : List (Option Nat) := [none]
noncomputable def inl : List (Nat × Nat × Nat × Inl Nm) := []
theorem inl_ok : InlsOk Try.prog inl := InlsOk.nil
noncomputable def X (M : Nat) : Ext E Bool := extOf (C7 M) (inlOf inl) (fun f => (rs7 M).lookup f) (fun _ _ _ => none) M 1
abbrev Rt := Bool
abbrev Zt := List Dir → St E → Option Rt
abbrev Ut := St E → Option Rt
noncomputable def s (M : Nat) (aa0_0 : (List api_Letter)) (pa1_0 : api_Paradigm) (stema2_0 : (List UInt8)) (inherenta3_0 : (List api_Feature)) (cella4_0 : (List api_Feature)) : Option Rt :=
  Option.bind (pentaglotlaw10_awake M) fun r15_2 =>
  cond (!r15_2)
   (some false)
   (Option.bind (pentaglotlaw10_valid M aa0_0 pa1_0) fun r19_6 =>
    cond (!r19_6)
     (some true)
     (cond (decide (200 < (stema2_0.length : Int)))
       (some true)
       (Option.bind (paradigm_Underlying M pa1_0 stema2_0 inherenta3_0 cella4_0) fun r31_7 =>
        Option.bind (pentaglotref10_Underlying M pa1_0 stema2_0 inherenta3_0 cella4_0) fun r39_8 =>
        cond (decide (r31_7.1 = r39_8.1))
         (some (decide (r31_7.2 = r39_8.2)))
         (some false))))
end pentaglotlaw10_ParadigmForms
noncomputable def pentaglotlaw10_ParadigmForms (M : Nat) (aa0_0 : (List api_Letter)) (pa1_0 : api_Paradigm) (stema2_0 : (List UInt8)) (inherenta3_0 : (List api_Feature)) (cella4_0 : (List api_Feature)) : Option Bool :=
  pentaglotlaw10_ParadigmForms.s M aa0_0 pa1_0 stema2_0 inherenta3_0 cella4_0
namespace pentaglotlaw10_ParadigmForms
noncomputable def K (M : Nat) : Cont E Bool := kRet (C7 M) Try.f7.results.toList rs ex
set_option maxRecDepth 100000
theorem g (M : Nat) (Z : Zt) (aa0_0 : (List api_Letter)) (pa1_0 : api_Paradigm) (stema2_0 : (List UInt8)) (inherenta3_0 : (List api_Feature)) (cella4_0 : (List api_Feature)) : runZ (C7 M) (X M) Z body plans (start (argHs ps (aa0_0, pa1_0, stema2_0, inherenta3_0, cella4_0)) Try.f7.ntmps 50) (K M) = s M aa0_0 pa1_0 stema2_0 inherenta3_0 cella4_0 := by kernel_rfl
theorem run (M : Nat) (aa0_0 : (List api_Letter)) (pa1_0 : api_Paradigm) (stema2_0 : (List UInt8)) (inherenta3_0 : (List api_Feature)) (cella4_0 : (List api_Feature)) : runF (rs := rs) (C7 M) (X M) M body Try.f7.ntmps 50 Try.f7.results.toList plans ps ex (aa0_0, pa1_0, stema2_0, inherenta3_0, cella4_0) = pentaglotlaw10_ParadigmForms M aa0_0 pa1_0 stema2_0 inherenta3_0 cella4_0 := by
  refine Eq.trans (b := runC (C7 M) (X M) M body plans (start (argHs ps (aa0_0, pa1_0, stema2_0, inherenta3_0, cella4_0)) Try.f7.ntmps 50) (K M)) (by kernel_rfl) ?_
  refine (zrun body plans _ (K M) (fun _ => none) fun _ => rfl).symm.trans ?_
  refine (g M _ aa0_0 pa1_0 stema2_0 inherenta3_0 cella4_0).trans ?_
  rfl
noncomputable def sig (M : Nat) : Sig E := { ps := ps, rs := rs, ex := ex, fn := fun x => pentaglotlaw10_ParadigmForms M x.1 x.2.1 x.2.2.1 x.2.2.2.1 x.2.2.2.2 }
theorem says (M : Nat) : callable Try.prog 7 = true ∧ ∀ x y, (sig M).fn x = some y → Says Try.prog 7 (sig M) x y := by
  refine ⟨by kernel_rfl, fun x y h => ?_⟩
  refine says_of_run (S := sig M) (C := C7 M) (X := X M) (M := M) (q := 50) (plans := plans) (COk_Try) (SigOk_C7 M) (ItOk_C7 M) (by kernel_rfl) (callOk_ext COk_Try (SigOk_C7 M) (ItOk_C7 M) (by kernel_rfl) inl_ok.ok (RSigOk_C7 M) M 1) (Try.func7) (body := body) (by kernel_rfl) (by kernel_rfl) ?_
  obtain ⟨aa0_0, pa1_0, stema2_0, inherenta3_0, cella4_0⟩ := x
  exact (run M aa0_0 pa1_0 stema2_0 inherenta3_0 cella4_0).trans h
end pentaglotlaw10_ParadigmForms
end Go.Ai.Par
end
namespace Go.Ai.Par
open Go Go.Ai

theorem pentaglotlaw10_ParadigmForms_plain (a : List api_Letter) (p : api_Paradigm) (stem : List UInt8) (inherent : List api_Feature) (cell : List api_Feature) (h : Z8 (.sl (.st .api_Letter)) a + (Z8 (.st .api_Paradigm) p + (Z8 .str stem + (Z8 (.sl (.st .api_Feature)) inherent + (Z8 (.sl (.st .api_Feature)) cell)))) ≤ 1048576) : pentaglotlaw10_ParadigmForms 2097152 a p stem inherent cell = some true := by
  have hM : 1048576 < 2097152 := by omega
  have hM2 : 2097152 ≤ 1099511627776 := by omega
  have ha := z8_letters (B := 1048576) (by omega) (a := a) (by omega)
  obtain ⟨hp, hsz⟩ := z8_par (B := 1048576) (by omega) (p := p) (by omega)
  obtain ⟨hcr, _⟩ := z8_rec (B := 1048576) (by omega) (r := cell) (by omega)
  obtain ⟨hir, _⟩ := z8_rec (B := 1048576) (by omega) (r := inherent) (by omega)
  have hs : Z8 .str stem = stem.length + 1 := rfl
  have hps : szS p.fSlots + 3 ≤ Z8 (.st .api_Paradigm) p := (z8_par (B := Z8 (.st .api_Paradigm) p) (by omega) (p := p) (Nat.le_refl _)).2
  unfold pentaglotlaw10_ParadigmForms pentaglotlaw10_ParadigmForms.s
  rw [awake_eq hM hM2, law10_valid_eq hM ha hp]
  cases hv : okB 2097152 a p with
  | false => rfl
  | true =>
    obtain ⟨v1, v2, v3, v4, v5⟩ := okB_facts hv
    simp only [Option.bind_some, Bool.not_true, cond_false]
    rw [paradigm_Underlying_eq hM hM2 hp.dims hp.slots v2 hcr.1 hir (by omega), ref10_Underlying_eq hM hM2 hp.dims hp.slots hir (by omega)]
    cases decide ((200 : Int) < stem.length) <;> simp

theorem pentaglotlaw10_ParadigmForms_law (x : Tup E.Γ pentaglotlaw10_ParadigmForms.ps) (_ : okTup (okD E 8) pentaglotlaw10_ParadigmForms.ps x) (h : szTup (szD E 8) pentaglotlaw10_ParadigmForms.ps x ≤ 1048576) : (pentaglotlaw10_ParadigmForms.sig 2097152).fn x = some true := by
  obtain ⟨a, p, stem, inherent, cell⟩ := x
  exact pentaglotlaw10_ParadigmForms_plain a p stem inherent cell h

end Go.Ai.Par
noncomputable section
namespace Go.Proofs.Ytejbamobkncfhaa
open Go Go.Ai Go.Ai.Par Go.RowKit Go.ChangeShapes
set_option maxRecDepth 100000
namespace ParadigmForms

theorem bulkOk {H : Type} : BulkOk (H := H) Rows.uptoBulk Rows.uptoBulkAll where
  str := fun l => by simp [Rows.uptoBulk]
  lit := fun l => by cases l <;> simp [Rows.uptoBulk]
  nil := by simp [Rows.uptoBulk]
  slice := fun xs ys => by simp only [Rows.uptoBulk]; omega
  agg := fun xs => by simp only [Rows.uptoBulk]; omega
  cons := fun x xs => by simp only [Rows.uptoBulkAll]; omega

theorem bound {H : Type} {l : List (DataW H)} (hk : Rows.uptoSmall H l = true) : Rows.uptoBulkAll l ≤ 1048576 := of_decide_eq_true hk
def reads : List Nat := [2, 9, 21, 113, 22, 23, 24, 26, 31, 57, 58, 67, 69, 71, 115]
theorem own : ownKnob Try.prog.godebug = none := by kernel_rfl
theorem laid : laidOutB Try.prog = true := by kernel_rfl

theorem lifted (os : Os) (started : os.Started) (H : Type) (enc : TypeId × Value → H) (F : Stop.Interp) :
    ReturnsInHanded {} Try.checked os 7 .any ((Rows.OpenSpec.upto Rows.paradigmFormsSpec).pre6 enc Try.prog Try.f7 Rows.paradigmFormsUptoRow.domain false) (((Rows.OpenSpec.upto Rows.paradigmFormsSpec).at F).post enc Try.prog Try.f7 false true false false) := by
  refine returnsInHanded_of_cond (C := Try.checked) (s := Rows.OpenSpec.upto Rows.paradigmFormsSpec) (k := Rows.uptoSmall) rfl own started (by kernel_rfl) Try.func7
    (OpenSpec.witness (enc := enc) (C := Try.checked) (s := Rows.OpenSpec.upto Rows.paradigmFormsSpec) (k := Rows.uptoSmall) rfl false ⟨#[], #[.slice none 0 0, .agg #[.string ⟨#[]⟩, .slice none 0 0, .slice none 0 0], .string ⟨#[]⟩, .slice none 0 0, .slice none 0 0], []⟩ 8 (by kernel_rfl) (by kernel_rfl) (by kernel_rfl)
      (x := ([.nil, .agg [.lit (.string []), .nil, .nil], .lit (.string []), .nil, .nil], [], [])) (by kernel_rfl) rfl (by kernel_rfl)) ?_
  intro W base args ds gs before hval hW _ hk _
  exact law_calls (COk_Try (sig := fun _ => none) (it := fun _ => none) (nt := 0) (r1 := []) (r2 := [])) (S := reads) (by kernel_rfl) (szD_ok 8) (okD_ok 8) laid (ps := pentaglotlaw10_ParadigmForms.ps) (by kernel_rfl) (by kernel_rfl) (tb := 4) rfl (by kernel_rfl) (F := (pentaglotlaw10_ParadigmForms.sig 2097152).fn)
    (pentaglotlaw10_ParadigmForms.says 2097152).2 pentaglotlaw10_ParadigmForms_law rfl (fun ds h => match ds, h with | [_, _, _, _, _], _ => rfl) hval hW bulkOk (bound hk)

theorem said : Rows.ParadigmFormsUptoSaid :=
  OpenClaim.holds_of_cond 7 Try.f7 rfl rfl rfl rfl rfl rfl rfl ⟨rfl, rfl, rfl, rfl, rfl⟩ rfl rfl rfl rfl rfl (by kernel_rfl) Try.func7 (by kernel_rfl)
    (of_decide_eq_true (by kernel_rfl)) (by unfold Func.isWrapper; first | (rw [if_pos (by decide +kernel)]; kernel_rfl) | (rw [if_neg (by decide +kernel)]; exact ⟨rfl, rfl⟩))
    (fun os started H enc _ F => lifted os started H enc F)

end ParadigmForms
end Go.Proofs.Ytejbamobkncfhaa
end
