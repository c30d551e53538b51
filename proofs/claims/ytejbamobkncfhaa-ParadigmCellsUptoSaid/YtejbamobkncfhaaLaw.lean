/- The law ParadigmCells of the chapter on paradigms: whatever it is called with, it answers true, where what it reads is of bulk at most 1048576. -/
import Derived.Test.YtejbamobkncfhaaA0
import Derived.Test.YtejbamobkncfhaaA1
import Derived.Test.YtejbamobkncfhaaA2
import Derived.Test.YtejbamobkncfhaaA3
import Derived.Test.YtejbamobkncfhaaA4
import Derived.Test.YtejbamobkncfhaaA5
import Derived.Test.YtejbamobkncfhaaRows
import Derived.JoinedCond
import Derived.ProofKit
set_option linter.unusedVariables false
set_option linter.unusedSectionVars false
noncomputable section
namespace Go.Ai.Par
open Go Go.Ai Go.Proofs
noncomputable def sigs3 (M : Nat) : List (Nat × Sig E) := [(12, pentaglotlaw10_awake.sig M), (13, pentaglotlaw10_valid.sig M), (14, pentaglotref10_Cells.sig M), (15, paradigm_Cell.sig M), (16, paradigm_Count.sig M), (17, pentaglotref02_Same.sig M), (18, paradigm_Number.sig M)]
noncomputable def rs3 (M : Nat) : List (Nat × Sig E) := []
noncomputable def its3 (M : Nat) : List (Nat × It E) := []
theorem sigs_ok3 (M : Nat) : SigsOk Try.prog (sigs3 M) := SigsOk.cons (pentaglotlaw10_awake.says M) (SigsOk.cons (pentaglotlaw10_valid.says M) (SigsOk.cons (pentaglotref10_Cells.says M) (SigsOk.cons (paradigm_Cell.says M) (SigsOk.cons (paradigm_Count.says M) (SigsOk.cons (pentaglotref02_Same.says M) (SigsOk.cons (paradigm_Number.says M) (SigsOk.nil)))))))
theorem rs_ok3 (M : Nat) : SigsOk Try.prog (rs3 M) := SigsOk.nil
theorem its_ok3 (M : Nat) : ItsOk Try.prog (its3 M) := ItsOk.nil
noncomputable def C3 (M : Nat) : Ctx E := { ti := fun t => tisE.lookup t, sig := fun f => (sigs3 M).lookup f, it := fun f => (its3 M).lookup f, nt := 66 }
theorem SigOk_C3 (M : Nat) : SigOk Try.prog (C3 M) := sigs_ok3 M
theorem RSigOk_C3 (M : Nat) : SigOk Try.prog ({ ti := fun _ => none, sig := fun f => (rs3 M).lookup f } : Ctx E) := rs_ok3 M
theorem ItOk_C3 (M : Nat) : ItOk Try.prog (C3 M) := (its_ok3 M).ok
namespace pentaglotlaw10_ParadigmCells
noncomputable def plans : List (Option (Plan Nm)) := [none, none, none, none, none, none, none, none, none, some { tmps := [(2, .asis), (4, .asis), (7, .own (100007, 0, 31) (.sl (.st .api_Feature))), (8, .asis), (9, .asis), (40, .asis)], boxes := [(4, [.asis, .asis, .asis])] }, none, none, none]
noncomputable abbrev body : Code := bodyOf Try.f3
def ps : List (Ty Nm) := [(.sl (.st .api_Letter)), (.st .api_Paradigm), (.int .i64)]
def rs : List (Ty Nm) := [.bool]
def ex : List (Option Nat) := [none]
noncomputable def inl : List (Nat × Nat × Nat × Inl Nm) := []
theorem inl_ok : InlsOk Try.prog inl := InlsOk.nil
noncomputable def X (M : Nat) : Ext E Bool := extOf (C3 M) (inlOf inl) (fun f => (rs3 M).lookup f) (fun _ _ _ => none) M 1
abbrev Rt := Bool
abbrev Qt1 : List Dir := [.r, .r, .r, .r, .r, .l]
abbrev Ht1 := Int → api_Paradigm → (List (List api_Feature)) → ((List api_Feature) × Bool) → Bool → Option Rt
abbrev Zt := List Dir → St E → Option Rt
abbrev Ut := St E → Option Rt
noncomputable def s1 (M : Nat) (na2_0 : Int) (pa1_0 : api_Paradigm) (r17_5 : (List (List api_Feature))) (r21_6 : (List api_Feature) × Bool) (x40_1 : Bool) : Option Rt :=
  cond (x40_1)
   (some false)
   (cond (r21_6.2)
     (cond (decide (0 ≤ na2_0) && decide (na2_0 < (r17_5.length : Int)))
       (Option.bind (pentaglotref02_Same M r21_6.1 (r17_5.getD na2_0.toNat default)) fun r48_11 =>
        cond (r48_11)
         (Option.bind (paradigm_Number M pa1_0 r21_6.1) fun r53_12 =>
          cond (decide (r53_12 = na2_0))
           (some true)
           (cond (!r21_6.2)
             (some (decide ((r21_6.1.length : Int) = 0)))
             (some false)))
         (cond (!r21_6.2)
           (some (decide ((r21_6.1.length : Int) = 0)))
           (some false)))
       none)
     (cond (!r21_6.2)
       (some (decide ((r21_6.1.length : Int) = 0)))
       (some false)))
noncomputable def j1 (M : Nat) (na2_0 : Int) (pa1_0 : api_Paradigm) (r17_5 : (List (List api_Feature))) (r21_6 : (List api_Feature) × Bool) (x40_1 : Bool) : Option Rt :=
  s1 M na2_0 pa1_0 r17_5 r21_6 x40_1
noncomputable def s (M : Nat) (h1 : Ht1) (aa0_0 : (List api_Letter)) (pa1_0 : api_Paradigm) (na2_0 : Int) : Option Rt :=
  Option.bind (pentaglotlaw10_awake M) fun r10_2 =>
  cond (!r10_2)
   (some false)
   (Option.bind (pentaglotlaw10_valid M aa0_0 pa1_0) fun r14_4 =>
    cond (!r14_4)
     (some true)
     (Option.bind (pentaglotref10_Cells M pa1_0) fun r17_5 =>
      Option.bind (paradigm_Cell M pa1_0 na2_0) fun r21_6 =>
      Option.bind (paradigm_Count M pa1_0) fun r25_10 =>
      cond (!decide (r25_10 = (r17_5.length : Int)))
       (h1 na2_0 pa1_0 r17_5 r21_6 true)
       (cond (decide (0 ≤ na2_0))
         (h1 na2_0 pa1_0 r17_5 r21_6 (!decide (r21_6.2 = (decide (na2_0 < (r17_5.length : Int))))))
         (h1 na2_0 pa1_0 r17_5 r21_6 (!decide (r21_6.2 = false))))))
end pentaglotlaw10_ParadigmCells
noncomputable def pentaglotlaw10_ParadigmCells (M : Nat) (aa0_0 : (List api_Letter)) (pa1_0 : api_Paradigm) (na2_0 : Int) : Option Bool :=
  pentaglotlaw10_ParadigmCells.s M (pentaglotlaw10_ParadigmCells.j1 M) aa0_0 pa1_0 na2_0
namespace pentaglotlaw10_ParadigmCells
noncomputable def S1 (na2_0 : Int) (pa1_0 : api_Paradigm) (r17_5 : (List (List api_Feature))) (r21_6 : (List api_Feature) × Bool) (x40_1 : Bool) : St E :=
  mkSt 66 66 [(2, .one (.tv (.int .i64 na2_0))), (4, .one (.ptr 4 0)), (7, .one (.tok (100007, 0, 31) (.sl (.st .api_Feature)) r17_5)), (8, .one (.tv (.sl (.st .api_Feature) r21_6.1))), (9, .one (.tv (.bool r21_6.2))), (40, .one (.tv (.bool x40_1)))] [(4, .cells [.tv (.str pa1_0.fName), .tv (.sl (.st .api_Dimension) pa1_0.fDimensions), .tv (.sl (.sl (.st .api_Affix)) pa1_0.fSlots)])] 0 [] [] false
noncomputable def K (M : Nat) : Cont E Bool := kRet (C3 M) Try.f3.results.toList rs ex
set_option maxRecDepth 100000
theorem g1 (M : Nat) (Z : Zt) (na2_0 : Int) (pa1_0 : api_Paradigm) (r17_5 : (List (List api_Feature))) (r21_6 : (List api_Feature) × Bool) (x40_1 : Bool) : seg (C3 M) (X M) Z body plans (K M) Qt1 (S1 na2_0 pa1_0 r17_5 r21_6 x40_1) = s1 M na2_0 pa1_0 r17_5 r21_6 x40_1 := by kernel_rfl
theorem g (M : Nat) (Z : Zt) (aa0_0 : (List api_Letter)) (pa1_0 : api_Paradigm) (na2_0 : Int) : runZ (C3 M) (X M) Z body plans (start (argHs ps (aa0_0, pa1_0, na2_0)) Try.f3.ntmps 66) (K M) = s M
    (fun na2_0 pa1_0 r17_5 r21_6 x40_1 => Z Qt1 (S1 na2_0 pa1_0 r17_5 r21_6 x40_1)) aa0_0 pa1_0 na2_0 := by kernel_rfl
theorem e1 (M : Nat) (na2_0 : Int) (pa1_0 : api_Paradigm) (r17_5 : (List (List api_Feature))) (r21_6 : (List api_Feature) × Bool) (x40_1 : Bool) : zAt (C3 M) (X M) M (zlq Qt1 []) body plans (K M) Qt1 (S1 na2_0 pa1_0 r17_5 r21_6 x40_1) = j1 M na2_0 pa1_0 r17_5 r21_6 x40_1 := by
  refine (seg_join Qt1 body plans (K M) _ (S1 na2_0 pa1_0 r17_5 r21_6 x40_1) (around_zlq _ _ (by kernel_rfl)) (by kernel_rfl)).trans ?_
  refine (g1 M _ na2_0 pa1_0 r17_5 r21_6 x40_1).trans ?_
  rfl
theorem run (M : Nat) (aa0_0 : (List api_Letter)) (pa1_0 : api_Paradigm) (na2_0 : Int) : runF (rs := rs) (C3 M) (X M) M body Try.f3.ntmps 66 Try.f3.results.toList plans ps ex (aa0_0, pa1_0, na2_0) = pentaglotlaw10_ParadigmCells M aa0_0 pa1_0 na2_0 := by
  refine Eq.trans (b := runC (C3 M) (X M) M body plans (start (argHs ps (aa0_0, pa1_0, na2_0)) Try.f3.ntmps 66) (K M)) (by kernel_rfl) ?_
  refine (zrun body plans _ (K M) (fun _ => none) fun _ => rfl).symm.trans ?_
  refine (g M _ aa0_0 pa1_0 na2_0).trans ?_
  have x0 := (funext fun na2_0 => funext fun pa1_0 => funext fun r17_5 => funext fun r21_6 => funext fun x40_1 => Eq.trans (b := zAt (C3 M) (X M) M (zlq Qt1 []) body plans (K M) Qt1 (S1 na2_0 pa1_0 r17_5 r21_6 x40_1)) (by kernel_rfl) (e1 M na2_0 pa1_0 r17_5 r21_6 x40_1) : (fun na2_0 pa1_0 r17_5 r21_6 x40_1 => zAt (C3 M) (X M) M (fun _ => none) body plans (K M) Qt1 (S1 na2_0 pa1_0 r17_5 r21_6 x40_1)) = j1 M)
  rw [x0]; rfl
noncomputable def sig (M : Nat) : Sig E := { ps := ps, rs := rs, ex := ex, fn := fun x => pentaglotlaw10_ParadigmCells M x.1 x.2.1 x.2.2 }
theorem says (M : Nat) : callable Try.prog 3 = true ∧ ∀ x y, (sig M).fn x = some y → Says Try.prog 3 (sig M) x y := by
  refine ⟨by kernel_rfl, fun x y h => ?_⟩
  refine says_of_run (S := sig M) (C := C3 M) (X := X M) (M := M) (q := 66) (plans := plans) (COk_Try) (SigOk_C3 M) (ItOk_C3 M) (by kernel_rfl) (callOk_ext COk_Try (SigOk_C3 M) (ItOk_C3 M) (by kernel_rfl) inl_ok.ok (RSigOk_C3 M) M 1) (Try.func3) (body := body) (by kernel_rfl) (by kernel_rfl) ?_
  obtain ⟨aa0_0, pa1_0, na2_0⟩ := x
  exact (run M aa0_0 pa1_0 na2_0).trans h
end pentaglotlaw10_ParadigmCells
end Go.Ai.Par
end
namespace Go.Ai.Par
open Go Go.Ai

theorem pentaglotlaw10_ParadigmCells_plain (a : List api_Letter) (p : api_Paradigm) (n : Int) (h : Z8 (.sl (.st .api_Letter)) a + (Z8 (.st .api_Paradigm) p + (Z8 (.int .i64) n)) ≤ 1048576) : pentaglotlaw10_ParadigmCells 2097152 a p n = some true := by
  have hM : 1048576 < 2097152 := by omega
  have hM2 : 2097152 ≤ 1099511627776 := by omega
  have ha := z8_letters (B := 1048576) (by omega) (a := a) (by omega)
  obtain ⟨hp, hsz⟩ := z8_par (B := 1048576) (by omega) (p := p) (by omega)
  unfold pentaglotlaw10_ParadigmCells pentaglotlaw10_ParadigmCells.s pentaglotlaw10_ParadigmCells.j1 pentaglotlaw10_ParadigmCells.s1
  rw [awake_eq hM hM2, law10_valid_eq hM ha hp, ref10_Cells_eq hM hp.dims, paradigm_Cell_eq hM hp.dims, paradigm_Count_eq hM hp.dims]
  cases hv : okB 2097152 a p with
  | false => rfl
  | true =>
    obtain ⟨v1, v2, v3, v4, v5⟩ := okB_facts hv
    simp only [Option.bind_some, Bool.not_true, cond_false]
    rw [cells_length]
    simp only [decide_true, Bool.not_true, cond_false]
    have hcl := cells_length p.fDimensions
    by_cases h0 : 0 ≤ n
    · rw [cpos h0]
      by_cases h1 : n < (count p.fDimensions : Int)
      · have e : cellS p.fDimensions n = ((cells p.fDimensions).getD n.toNat default, true) := by unfold cellS; rw [cpos2 h0 h1]
        have hn : n.toNat < (cells p.fDimensions).length := by rw [hcl]; omega
        obtain ⟨g1, g2, g3⟩ := cells_mem (getD_mem hn)
        rw [e]
        simp only [h1, decide_true, Bool.not_true, cond_false, cond_true]
        rw [show (decide (0 ≤ n) && true) = true by simp [h0], cond_true, ref02_Same_eq hM (by omega), Option.bind_some, paradigm_Number_eq hM hp.dims (by omega), numP_numR]
        have e2 : numR p.fDimensions ((cells p.fDimensions).getD n.toNat default) = n := by
          unfold numR
          rw [fst_nodup _ _ (cells_nodup _) hn]
          omega
        rw [e2]
        simp
      · have e : cellS p.fDimensions n = ([], false) := by unfold cellS; rw [cneg2 (by omega)]
        rw [e]
        simp [h1]
    · rw [cneg h0]
      have e : cellS p.fDimensions n = ([], false) := by unfold cellS; rw [cneg2 (by omega)]
      rw [e]
      simp

theorem pentaglotlaw10_ParadigmCells_law (x : Tup E.Γ pentaglotlaw10_ParadigmCells.ps) (_ : okTup (okD E 8) pentaglotlaw10_ParadigmCells.ps x) (h : szTup (szD E 8) pentaglotlaw10_ParadigmCells.ps x ≤ 1048576) : (pentaglotlaw10_ParadigmCells.sig 2097152).fn x = some true := by
  obtain ⟨a, p, n⟩ := x
  exact pentaglotlaw10_ParadigmCells_plain a p n h

end Go.Ai.Par
noncomputable section
namespace Go.Proofs.Ytejbamobkncfhaa
open Go Go.Ai Go.Ai.Par Go.RowKit Go.ChangeShapes
set_option maxRecDepth 100000
namespace ParadigmCells

theorem bulkOk {H : Type} : BulkOk (H := H) Rows.uptoBulk Rows.uptoBulkAll where
  str := fun l => by simp [Rows.uptoBulk]
  lit := fun l => by cases l <;> simp [Rows.uptoBulk]
  nil := by simp [Rows.uptoBulk]
  slice := fun xs ys => by simp only [Rows.uptoBulk]; omega
  agg := fun xs => by simp only [Rows.uptoBulk]; omega
  cons := fun x xs => by simp only [Rows.uptoBulkAll]; omega

theorem bound {H : Type} {l : List (DataW H)} (hk : Rows.uptoSmall H l = true) : Rows.uptoBulkAll l ≤ 1048576 := of_decide_eq_true hk
def reads : List Nat := [2, 3, 9, 21, 113, 22, 23, 24, 26, 31, 57, 58, 67, 69, 71, 115]
theorem own : ownKnob Try.prog.godebug = none := by kernel_rfl
theorem laid : laidOutB Try.prog = true := by kernel_rfl

theorem lifted (os : Os) (started : os.Started) (H : Type) (enc : TypeId × Value → H) (F : Stop.Interp) :
    ReturnsInHanded {} Try.checked os 3 .any ((Rows.OpenSpec.upto Rows.paradigmCellsSpec).pre6 enc Try.prog Try.f3 Rows.paradigmCellsUptoRow.domain false) (((Rows.OpenSpec.upto Rows.paradigmCellsSpec).at F).post enc Try.prog Try.f3 false true false false) := by
  refine returnsInHanded_of_cond (C := Try.checked) (s := Rows.OpenSpec.upto Rows.paradigmCellsSpec) (k := Rows.uptoSmall) rfl own started (by kernel_rfl) Try.func3
    (OpenSpec.witness (enc := enc) (C := Try.checked) (s := Rows.OpenSpec.upto Rows.paradigmCellsSpec) (k := Rows.uptoSmall) rfl false ⟨#[], #[.slice none 0 0, .agg #[.string ⟨#[]⟩, .slice none 0 0, .slice none 0 0], .int .i64 0], []⟩ 8 (by kernel_rfl) (by kernel_rfl) (by kernel_rfl)
      (x := ([.nil, .agg [.lit (.string []), .nil, .nil], .lit (.int .i64 0)], [], [])) (by kernel_rfl) rfl (by kernel_rfl)) ?_
  intro W base args ds gs before hval hW _ hk _
  exact law_calls (COk_Try (sig := fun _ => none) (it := fun _ => none) (nt := 0) (r1 := []) (r2 := [])) (S := reads) (by kernel_rfl) (szD_ok 8) (okD_ok 8) laid (ps := pentaglotlaw10_ParadigmCells.ps) (by kernel_rfl) (by kernel_rfl) (tb := 4) rfl (by kernel_rfl) (F := (pentaglotlaw10_ParadigmCells.sig 2097152).fn)
    (pentaglotlaw10_ParadigmCells.says 2097152).2 pentaglotlaw10_ParadigmCells_law rfl (fun ds h => match ds, h with | [_, _, _], _ => rfl) hval hW bulkOk (bound hk)

theorem said : Rows.ParadigmCellsUptoSaid :=
  OpenClaim.holds_of_cond 3 Try.f3 rfl rfl rfl rfl rfl rfl rfl ⟨rfl, rfl, rfl, rfl, rfl⟩ rfl rfl rfl rfl rfl (by kernel_rfl) Try.func3 (by kernel_rfl)
    (of_decide_eq_true (by kernel_rfl)) (by unfold Func.isWrapper; first | (rw [if_pos (by decide +kernel)]; kernel_rfl) | (rw [if_neg (by decide +kernel)]; exact ⟨rfl, rfl⟩))
    (fun os started H enc _ F => lifted os started H enc F)

end ParadigmCells
end Go.Proofs.Ytejbamobkncfhaa
end
