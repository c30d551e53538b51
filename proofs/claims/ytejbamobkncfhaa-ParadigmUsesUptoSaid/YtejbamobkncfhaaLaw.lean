/- The law ParadigmUses of the chapter on paradigms: whatever it is called with, it answers true, where what it reads is of bulk at most 1048576. -/
import Derived.Test.YtejbamobkncfhaaA0
import Derived.Test.YtejbamobkncfhaaA1
import Derived.Test.YtejbamobkncfhaaA2
import Derived.Test.YtejbamobkncfhaaA3
import Derived.Test.YtejbamobkncfhaaA4
import Derived.Test.YtejbamobkncfhaaA5
import Derived.Test.YtejbamobkncfhaaRows
import Derived.JoinedCond
import Derived.ProofKit
set_option linter.unusedVariables false
set_option linter.unusedSectionVars false
noncomputable section
namespace Go.Ai.Par
open Go Go.Ai Go.Proofs
noncomputable def sigs10 (M : Nat) : List (Nat × Sig E) := [(12, pentaglotlaw10_awake.sig M), (13, pentaglotlaw10_valid.sig M), (15, paradigm_Cell.sig M), (20, paradigm_Merge.sig M), (23, paradigm_Chosen.sig M), (28, paradigm_Unused.sig M)]
noncomputable def rs10 (M : Nat) : List (Nat × Sig E) := []
noncomputable def its10 (M : Nat) : List (Nat × It E) := []
theorem sigs_ok10 (M : Nat) : SigsOk Try.prog (sigs10 M) := SigsOk.cons (pentaglotlaw10_awake.says M) (SigsOk.cons (pentaglotlaw10_valid.says M) (SigsOk.cons (paradigm_Cell.says M) (SigsOk.cons (paradigm_Merge.says M) (SigsOk.cons (paradigm_Chosen.says M) (SigsOk.cons (paradigm_Unused.says M) (SigsOk.nil))))))
theorem rs_ok10 (M : Nat) : SigsOk Try.prog (rs10 M) := SigsOk.nil
theorem its_ok10 (M : Nat) : ItsOk Try.prog (its10 M) := ItsOk.nil
noncomputable def C10 (M : Nat) : Ctx E := { ti := fun t => tisE.lookup t, sig := fun f => (sigs10 M).lookup f, it := fun f => (its10 M).lookup f, nt := 114 }
theorem SigOk_C10 (M : Nat) : SigOk Try.prog (C10 M) := sigs_ok10 M
theorem RSigOk_C10 (M : Nat) : SigOk Try.prog ({ ti := fun _ => none, sig := fun f => (rs10 M).lookup f } : Ctx E) := rs_ok10 M
theorem ItOk_C10 (M : Nat) : ItOk Try.prog (C10 M) := (its_ok10 M).ok
namespace pentaglotlaw10_ParadigmUses
noncomputable def plans : List (Option (Plan Nm)) := [none, none, none, none, none, none, none, none, none, none, none, none, none, none, none, some { tmps := [(3, .asis), (14, .asis), (15, .own (100015, 0, 54) (.st .arr2_Int)), (16, .asis)], boxes := [] }, none, none, some { tmps := [(3, .asis), (14, .asis), (15, .own (100015, 0, 54) (.st .arr2_Int)), (16, .asis), (113, .asis)], boxes := [] }, none, none, none, none]
noncomputable abbrev body : Code := bodyOf Try.f10
def ps : List (Ty Nm) := [(.sl (.st .api_Letter)), (.st .api_Paradigm), (.int .i64), (.int .i64), (.sl (.st .api_Feature))]
def rs : List (Ty Nm) := [.bool]
def ex : List (Option Nat) := [none]
noncomputable def inl : List (Nat × Nat × Nat × Inl Nm) := []
theorem inl_ok : InlsOk Try.prog inl := InlsOk.nil
noncomputable def X (M : Nat) : Ext E Bool := extOf (C10 M) (inlOf inl) (fun f => (rs10 M).lookup f) (fun _ _ _ => none) noX M 1
abbrev Rt := Bool
noncomputable def H (M : Nat) : Hd E Rt := hd0 (X M)
theorem Hok (M : Nat) : (H M).ok (C10 M) M := hd0_ok _
abbrev Qt2 : List Dir := [.r, .r, .r, .r, .r, .r, .r, .r, .l, .r, .k, .L, .r, .l, .k]
abbrev Ht2 := Int → Int → (List arr2_Int) → Int → Bool → Option Rt
abbrev Qt1 : List Dir := [.r, .r, .r, .r, .r, .r, .r, .r, .l, .r, .k]
abbrev Ht1 := Int → (List arr2_Int) → Int → Int → Option Rt
abbrev Zt := List Dir → St E → Option Rt
abbrev Ut := St E → Option Rt
noncomputable def s2 (M : Nat) (h1 : Ht1) (i16_1 : Int) (r43_9 : Int) (r53_10 : (List arr2_Int)) (slota3_0 : Int) (x113_2 : Bool) : Option Rt :=
  cond (x113_2)
   (some false)
   (h1 r43_9 r53_10 slota3_0 (IntKind.i64.wrap (i16_1 + 1)))
noncomputable def j2 (M : Nat) (h1 : Ht1) (i16_1 : Int) (r43_9 : Int) (r53_10 : (List arr2_Int)) (slota3_0 : Int) (x113_2 : Bool) : Option Rt :=
  s2 M h1 i16_1 r43_9 r53_10 slota3_0 x113_2
noncomputable def s1 (M : Nat) (h2 : Ht2) (r43_9 : Int) (r53_10 : (List arr2_Int)) (slota3_0 : Int) (i16_1 : Int) : Option Rt :=
  cond (decide (i16_1 < (r53_10.length : Int)))
   (cond (decide (0 ≤ i16_1) && decide (i16_1 < (r53_10.length : Int)))
     (cond (decide (((r53_10.getD i16_1.toNat default).f0) = slota3_0) && (decide (((r53_10.getD i16_1.toNat default).f1) = r43_9) && true))
       (h2 i16_1 r43_9 r53_10 slota3_0 true)
       (cond (decide (0 < i16_1))
         (cond (decide (0 ≤ IntKind.i64.wrap (i16_1 - 1)) && decide (IntKind.i64.wrap (i16_1 - 1) < (r53_10.length : Int)))
           (cond (decide (0 ≤ i16_1) && decide (i16_1 < (r53_10.length : Int)))
             (cond (decide (((r53_10.getD i16_1.toNat default).f0) < ((r53_10.getD (IntKind.i64.wrap (i16_1 - 1)).toNat default).f0)))
               (h2 i16_1 r43_9 r53_10 slota3_0 true)
               (cond (decide (0 ≤ IntKind.i64.wrap (i16_1 - 1)) && decide (IntKind.i64.wrap (i16_1 - 1) < (r53_10.length : Int)))
                 (cond (decide (0 ≤ i16_1) && decide (i16_1 < (r53_10.length : Int)))
                   (cond (decide (((r53_10.getD (IntKind.i64.wrap (i16_1 - 1)).toNat default).f0) = ((r53_10.getD i16_1.toNat default).f0)))
                     (cond (decide (0 ≤ IntKind.i64.wrap (i16_1 - 1)) && decide (IntKind.i64.wrap (i16_1 - 1) < (r53_10.length : Int)))
                       (cond (decide (0 ≤ i16_1) && decide (i16_1 < (r53_10.length : Int)))
                         (h2 i16_1 r43_9 r53_10 slota3_0 (decide (((r53_10.getD i16_1.toNat default).f1) ≤ ((r53_10.getD (IntKind.i64.wrap (i16_1 - 1)).toNat default).f1))))
                         none)
                       none)
                     (h2 i16_1 r43_9 r53_10 slota3_0 false))
                   none)
                 none))
             none)
           none)
         (h2 i16_1 r43_9 r53_10 slota3_0 false)))
     none)
   (some true)
noncomputable def l1 (M : Nat) : Nat → Ht1
  | 0, _, _, _, _ => none
  | k + 1, r43_9, r53_10, slota3_0, i16_1 => s1 M (j2 M (l1 M k)) r43_9 r53_10 slota3_0 i16_1
noncomputable def s (M : Nat) (h1 : Ht1) (aa0_0 : (List api_Letter)) (pa1_0 : api_Paradigm) (na2_0 : Int) (slota3_0 : Int) (inherenta4_0 : (List api_Feature)) : Option Rt :=
  Option.bind (pentaglotlaw10_awake M) fun r17_2 =>
  cond (!r17_2)
   (some false)
   (Option.bind (paradigm_Cell M pa1_0 na2_0) fun r22_3 =>
    Option.bind (pentaglotlaw10_valid M aa0_0 pa1_0) fun r27_7 =>
    cond (!r27_7)
     (some true)
     (cond (!r22_3.2)
       (some true)
       (Option.bind (paradigm_Merge M pa1_0 r22_3.1 inherenta4_0) fun r37_8 =>
        Option.bind (paradigm_Chosen M pa1_0 slota3_0 r37_8.1) fun r43_9 =>
        cond (!r37_8.2)
         (some true)
         (cond (decide (r43_9 < 0))
           (some true)
           (Option.bind (paradigm_Unused M pa1_0 [inherenta4_0]) fun r53_10 =>
            h1 r43_9 r53_10 slota3_0 0)))))
end pentaglotlaw10_ParadigmUses
noncomputable def pentaglotlaw10_ParadigmUses (M : Nat) (aa0_0 : (List api_Letter)) (pa1_0 : api_Paradigm) (na2_0 : Int) (slota3_0 : Int) (inherenta4_0 : (List api_Feature)) : Option Bool :=
  pentaglotlaw10_ParadigmUses.s M (pentaglotlaw10_ParadigmUses.l1 M M) aa0_0 pa1_0 na2_0 slota3_0 inherenta4_0
namespace pentaglotlaw10_ParadigmUses
noncomputable def S2 (i16_1 : Int) (r43_9 : Int) (r53_10 : (List arr2_Int)) (slota3_0 : Int) (x113_2 : Bool) : St E :=
  mkSt 114 114 [(3, .one (.tv (.int .i64 slota3_0))), (14, .one (.tv (.int .i64 r43_9))), (15, .one (.tok (100015, 0, 54) (.st .arr2_Int) r53_10)), (16, .one (.tv (.int .i64 i16_1))), (113, .one (.tv (.bool x113_2)))] [] 0 [] [] false
noncomputable def S1 (r43_9 : Int) (r53_10 : (List arr2_Int)) (slota3_0 : Int) (i16_1 : Int) : St E :=
  mkSt 114 114 [(3, .one (.tv (.int .i64 slota3_0))), (14, .one (.tv (.int .i64 r43_9))), (15, .one (.tok (100015, 0, 54) (.st .arr2_Int) r53_10)), (16, .one (.tv (.int .i64 i16_1)))] [] 0 [] [] false
noncomputable def K (M : Nat) : Cont E Bool := kRet (C10 M) Try.f10.results.toList rs ex
noncomputable abbrev zA (M : Nat) (ZL : List Dir → Option (Ut)) (q : List Dir) : Ut := zAt (C10 M) (H M) M 0 ZL body plans (K M) q
noncomputable abbrev lA (M : Nat) (ZL : List Dir → Option (Ut)) (q : List Dir) (k : Nat) : Ut := lpAt (C10 M) (H M) M 0 ZL body plans (K M) q k
noncomputable abbrev gA (M : Nat) (Z : Zt) (q : List Dir) : Ut := seg (C10 M) (H M) 0 Z body plans (K M) q
set_option maxRecDepth 100000
theorem g2 (M : Nat) (Z : Zt) (i16_1 : Int) (r43_9 : Int) (r53_10 : (List arr2_Int)) (slota3_0 : Int) (x113_2 : Bool) : gA M Z Qt2 (S2 i16_1 r43_9 r53_10 slota3_0 x113_2) = s2 M
    (fun r43_9 r53_10 slota3_0 i16_1 => Z Qt1 (S1 r43_9 r53_10 slota3_0 i16_1)) i16_1 r43_9 r53_10 slota3_0 x113_2 := by kernel_rfl
theorem g1 (M : Nat) (Z : Zt) (r43_9 : Int) (r53_10 : (List arr2_Int)) (slota3_0 : Int) (i16_1 : Int) : gA M Z Qt1 (S1 r43_9 r53_10 slota3_0 i16_1) = s1 M
    (fun i16_1 r43_9 r53_10 slota3_0 x113_2 => Z Qt2 (S2 i16_1 r43_9 r53_10 slota3_0 x113_2)) r43_9 r53_10 slota3_0 i16_1 := by kernel_rfl
theorem g (M : Nat) (Z : Zt) (aa0_0 : (List api_Letter)) (pa1_0 : api_Paradigm) (na2_0 : Int) (slota3_0 : Int) (inherenta4_0 : (List api_Feature)) : runZ (C10 M) (extZ (C10 M) (H M) 0) Z body plans (start (argHs ps (aa0_0, pa1_0, na2_0, slota3_0, inherenta4_0)) Try.f10.ntmps 114) (K M) = s M
    (fun r43_9 r53_10 slota3_0 i16_1 => Z Qt1 (S1 r43_9 r53_10 slota3_0 i16_1)) aa0_0 pa1_0 na2_0 slota3_0 inherenta4_0 := by kernel_rfl
theorem e2 (M : Nat) (Z1 : Ut) (h1 : Ht1) (hZ1 : ∀ (r43_9 : Int) (r53_10 : (List arr2_Int)) (slota3_0 : Int) (i16_1 : Int), Z1 (S1 r43_9 r53_10 slota3_0 i16_1) = h1 r43_9 r53_10 slota3_0 i16_1) (i16_1 : Int) (r43_9 : Int) (r53_10 : (List arr2_Int)) (slota3_0 : Int) (x113_2 : Bool) : zA M (zlq Qt2 [Z1]) Qt2 (S2 i16_1 r43_9 r53_10 slota3_0 x113_2) = j2 M h1 i16_1 r43_9 r53_10 slota3_0 x113_2 := by
  refine (seg_join (Hok M) 0 Qt2 body plans (K M) _ (S2 i16_1 r43_9 r53_10 slota3_0 x113_2) (around_zlq _ _ (by kernel_rfl)) (by kernel_rfl)).trans ?_
  refine (g2 M _ i16_1 r43_9 r53_10 slota3_0 x113_2).trans ?_
  have x0 := (funext fun r43_9 => funext fun r53_10 => funext fun slota3_0 => funext fun i16_1 => Eq.trans (b := Z1 (S1 r43_9 r53_10 slota3_0 i16_1)) (by kernel_rfl) (hZ1 r43_9 r53_10 slota3_0 i16_1) : (fun r43_9 r53_10 slota3_0 i16_1 => zA M (zlq Qt2 [Z1]) Qt1 (S1 r43_9 r53_10 slota3_0 i16_1)) = h1)
  rw [x0]; rfl
theorem el1 (M : Nat) (k : Nat) (r43_9 : Int) (r53_10 : (List arr2_Int)) (slota3_0 : Int) (i16_1 : Int) : lA M (zlq Qt1 []) Qt1 k (S1 r43_9 r53_10 slota3_0 i16_1) = l1 M k r43_9 r53_10 slota3_0 i16_1 := by
  induction k generalizing r43_9 r53_10 slota3_0 i16_1 with
  | zero => kernel_rfl
  | succ k ih =>
    refine Eq.trans (b := lA M (zlq Qt1 [lA M (zlq Qt1 []) Qt1 k]) Qt1 (k + 1) (S1 r43_9 r53_10 slota3_0 i16_1)) (by kernel_rfl) ?_
    refine (seg_loop (Hok M) 0 Qt1 body plans (K M) _ (S1 r43_9 r53_10 slota3_0 i16_1) (around_zlq _ _ (by kernel_rfl)) (by kernel_rfl) (by kernel_rfl)).trans ?_
    refine (g1 M _ r43_9 r53_10 slota3_0 i16_1).trans ?_
    have x0 := (funext fun i16_1 => funext fun r43_9 => funext fun r53_10 => funext fun slota3_0 => funext fun x113_2 => Eq.trans (b := zA M (zlq Qt2 [(lA M (zlq Qt1 []) Qt1 k)]) Qt2 (S2 i16_1 r43_9 r53_10 slota3_0 x113_2)) (by kernel_rfl) (e2 M (lA M (zlq Qt1 []) Qt1 k) (l1 M k) (fun r43_9 r53_10 slota3_0 i16_1 => ih r43_9 r53_10 slota3_0 i16_1) i16_1 r43_9 r53_10 slota3_0 x113_2) : (fun i16_1 r43_9 r53_10 slota3_0 x113_2 => zA M (zlq Qt1 [lA M (zlq Qt1 []) Qt1 k]) Qt2 (S2 i16_1 r43_9 r53_10 slota3_0 x113_2)) = j2 M (l1 M k))
    rw [x0]; rfl
theorem e1 (M : Nat) (r43_9 : Int) (r53_10 : (List arr2_Int)) (slota3_0 : Int) (i16_1 : Int) : zA M (zlq Qt1 []) Qt1 (S1 r43_9 r53_10 slota3_0 i16_1) = l1 M M r43_9 r53_10 slota3_0 i16_1 :=
  Eq.trans (b := lA M (zlq Qt1 []) Qt1 M (S1 r43_9 r53_10 slota3_0 i16_1)) (by kernel_rfl) (el1 M M r43_9 r53_10 slota3_0 i16_1)
theorem run (M : Nat) (aa0_0 : (List api_Letter)) (pa1_0 : api_Paradigm) (na2_0 : Int) (slota3_0 : Int) (inherenta4_0 : (List api_Feature)) : runF (rs := rs) (C10 M) (X M) M body Try.f10.ntmps 114 Try.f10.results.toList plans ps ex (aa0_0, pa1_0, na2_0, slota3_0, inherenta4_0) = pentaglotlaw10_ParadigmUses M aa0_0 pa1_0 na2_0 slota3_0 inherenta4_0 := by
  refine Eq.trans (b := runC (C10 M) (X M) M body plans (start (argHs ps (aa0_0, pa1_0, na2_0, slota3_0, inherenta4_0)) Try.f10.ntmps 114) (K M)) (by kernel_rfl) ?_
  refine (zrun (Hok M) 0 body plans _ (K M) (fun _ => none) fun _ => rfl).symm.trans ?_
  refine (g M _ aa0_0 pa1_0 na2_0 slota3_0 inherenta4_0).trans ?_
  have x0 := (funext fun r43_9 => funext fun r53_10 => funext fun slota3_0 => funext fun i16_1 => Eq.trans (b := zA M (zlq Qt1 []) Qt1 (S1 r43_9 r53_10 slota3_0 i16_1)) (by kernel_rfl) (e1 M r43_9 r53_10 slota3_0 i16_1) : (fun r43_9 r53_10 slota3_0 i16_1 => zA M (fun _ => none) Qt1 (S1 r43_9 r53_10 slota3_0 i16_1)) = l1 M M)
  rw [x0]; rfl
noncomputable def sig (M : Nat) : Sig E := { ps := ps, rs := rs, ex := ex, fn := fun x => pentaglotlaw10_ParadigmUses M x.1 x.2.1 x.2.2.1 x.2.2.2.1 x.2.2.2.2 }
theorem says (M : Nat) : callable Try.prog 10 = true ∧ ∀ x y, (sig M).fn x = some y → Says Try.prog 10 (sig M) x y := by
  refine ⟨by kernel_rfl, fun x y h => ?_⟩
  refine says_of_run (S := sig M) (C := C10 M) (X := X M) (M := M) (q := 114) (plans := plans) (COk_Try) (SigOk_C10 M) (ItOk_C10 M) (by kernel_rfl) (callOk_ext COk_Try (SigOk_C10 M) (ItOk_C10 M) (by kernel_rfl) inl_ok.ok (RSigOk_C10 M) (fun _ => callOk_none) M 1) (Try.func10) (body := body) (by kernel_rfl) (by kernel_rfl) ?_
  obtain ⟨aa0_0, pa1_0, na2_0, slota3_0, inherenta4_0⟩ := x
  exact (run M aa0_0 pa1_0 na2_0 slota3_0 inherenta4_0).trans h
end pentaglotlaw10_ParadigmUses
end Go.Ai.Par
end
namespace Go.Ai.Par
open Go Go.Ai

/-! ### The pairs that are left stand in their order, and none of them is used -/
def ltP (x y : arr2_Int) : Prop := x.f0 < y.f0 ∨ (x.f0 = y.f0 ∧ x.f1 < y.f1)

theorem rowU_mem {u : Int → Int → Bool} {i : Nat} {x : arr2_Int} : ∀ {n j : Nat}, x ∈ rowU u i n j → x.f0 = i ∧ (j : Int) ≤ x.f1 ∧ u x.f0 x.f1 = false
  | 0, _, h => by cases h
  | n + 1, j, h => by
    simp only [rowU] at h
    cases hu : u i j with
    | true =>
      rw [hu] at h
      obtain ⟨h1, h2, h3⟩ := rowU_mem (n := n) (j := j + 1) h
      exact ⟨h1, by omega, h3⟩
    | false =>
      rw [hu] at h
      rcases List.mem_cons.1 h with rfl | h
      · exact ⟨rfl, Int.le_refl _, hu⟩
      · obtain ⟨h1, h2, h3⟩ := rowU_mem (n := n) (j := j + 1) h
        exact ⟨h1, by omega, h3⟩

theorem rowU_asc {u : Int → Int → Bool} {i : Nat} : ∀ (n j : Nat), (rowU u i n j).Pairwise ltP
  | 0, _ => List.Pairwise.nil
  | n + 1, j => by
    simp only [rowU]
    cases u i j with
    | true => exact rowU_asc n (j + 1)
    | false =>
      refine List.pairwise_cons.2 ⟨fun y hy => ?_, rowU_asc n (j + 1)⟩
      obtain ⟨h1, h2, _⟩ := rowU_mem hy
      exact .inr ⟨h1.symm, by show (j : Int) < y.f1; omega⟩

theorem rowsU_mem {u : Int → Int → Bool} {x : arr2_Int} : ∀ {ss : List (List api_Affix)} {i : Nat}, x ∈ rowsU u i ss → (i : Int) ≤ x.f0 ∧ u x.f0 x.f1 = false
  | [], _, h => by cases h
  | s :: ss, i, h => by
    simp only [rowsU, List.mem_append] at h
    rcases h with h | h
    · obtain ⟨h1, _, h3⟩ := rowU_mem h
      exact ⟨by omega, h3⟩
    · obtain ⟨h1, h3⟩ := rowsU_mem (i := i + 1) h
      exact ⟨by omega, h3⟩

theorem rowsU_asc {u : Int → Int → Bool} : ∀ (ss : List (List api_Affix)) (i : Nat), (rowsU u i ss).Pairwise ltP
  | [], _ => List.Pairwise.nil
  | s :: ss, i => by
    simp only [rowsU]
    refine List.pairwise_append.2 ⟨rowU_asc _ _, rowsU_asc ss (i + 1), fun x hx y hy => ?_⟩
    obtain ⟨h1, _, _⟩ := rowU_mem hx
    obtain ⟨h2, _⟩ := rowsU_mem hy
    exact .inl (by omega)

theorem uses_loop {M : Nat} {xs : List arr2_Int} (hasc : xs.Pairwise ltP) {slot c : Int} (hne : ∀ x ∈ xs, ¬(x.f0 = slot ∧ x.f1 = c)) (hl : xs.length ≤ 1048576) : ∀ (d k i : Nat), i + d = xs.length → d < k → pentaglotlaw10_ParadigmUses.l1 M k c xs slot i = some true := by
  intro d
  induction d with
  | zero =>
    intro k i hi hk
    obtain ⟨k, rfl⟩ := Nat.exists_eq_succ_of_ne_zero (by omega : k ≠ 0)
    simp only [Nat.succ_eq_add_one, pentaglotlaw10_ParadigmUses.l1, pentaglotlaw10_ParadigmUses.s1]
    rw [cneg (by omega)]
  | succ d ih =>
    intro k i hi hk
    obtain ⟨k, rfl⟩ := Nat.exists_eq_succ_of_ne_zero (by omega : k ≠ 0)
    have ih' := ih k (i + 1) (by omega) (by omega)
    have hm : xs.getD i default ∈ xs := getD_mem (by omega)
    have h1 := hne _ hm
    have hj : ∀ b : Bool, b = false → pentaglotlaw10_ParadigmUses.j2 M (pentaglotlaw10_ParadigmUses.l1 M k) i c xs slot b = some true := by
      intro b hb
      subst hb
      simp only [pentaglotlaw10_ParadigmUses.j2, pentaglotlaw10_ParadigmUses.s2, cond_false]
      rw [wsucc (by omega), ih']
    have hc : (decide ((xs.getD i default).f0 = slot) && (decide ((xs.getD i default).f1 = c) && true)) = false := by
      by_cases e : (xs.getD i default).f0 = slot
      · have : ¬ (xs.getD i default).f1 = c := fun e' => h1 ⟨e, e'⟩
        rw [decide_eq_false this]; simp only [Bool.false_and, Bool.and_false]
      · rw [decide_eq_false e]; rfl
    simp (disch := omega) only [Nat.succ_eq_add_one, pentaglotlaw10_ParadigmUses.l1, pentaglotlaw10_ParadigmUses.s1, ↓cpos, ↓cpos2, Int.toNat_natCast, hc, cond_false]
    by_cases h0 : i = 0
    · subst h0
      rw [cneg (by omega)]
      exact hj _ rfl
    · obtain ⟨q, rfl⟩ := Nat.exists_eq_succ_of_ne_zero h0
      have hw : IntKind.i64.wrap (((q + 1 : Nat) : Int) - 1) = q := by rw [wrap64] <;> omega
      have hlt : ltP (xs.getD q default) (xs.getD (q + 1) default) := by
        have := List.pairwise_iff_getElem.1 hasc q (q + 1) (by omega) (by omega) (by omega)
        rw [List.getD_eq_getElem?_getD, List.getD_eq_getElem?_getD, List.getElem?_eq_getElem (by omega), List.getElem?_eq_getElem (by omega)]
        exact this
      rw [cpos (by omega)]
      simp (disch := omega) only [Nat.succ_eq_add_one, hw, ↓cpos2, Int.toNat_natCast]
      rcases hlt with h | ⟨h, h'⟩
      · rw [cneg (by omega), cneg (by omega)]
        exact hj _ rfl
      · rw [cneg (by omega), cpos h]
        exact hj _ (decide_eq_false (by omega))

theorem pentaglotlaw10_ParadigmUses_plain (a : List api_Letter) (p : api_Paradigm) (n slot : Int) (inherent : List api_Feature) (h : Z8 (.sl (.st .api_Letter)) a + (Z8 (.st .api_Paradigm) p + (Z8 (.int .i64) n + (Z8 (.int .i64) slot + (Z8 (.sl (.st .api_Feature)) inherent)))) ≤ 1048576) : pentaglotlaw10_ParadigmUses 2097152 a p n slot inherent = some true := by
  have hM : 1048576 < 2097152 := by omega
  have hM2 : 2097152 ≤ 1099511627776 := by omega
  have ha := z8_letters (B := 1048576) (by omega) (a := a) (by omega)
  obtain ⟨hp, hsz⟩ := z8_par (B := 1048576) (by omega) (p := p) (by omega)
  obtain ⟨hir, _⟩ := z8_rec (B := 1048576) (by omega) (r := inherent) (by omega)
  unfold pentaglotlaw10_ParadigmUses pentaglotlaw10_ParadigmUses.s
  rw [awake_eq hM hM2, paradigm_Cell_eq hM hp.dims, law10_valid_eq hM ha hp]
  cases hv : okB 2097152 a p with
  | false => rfl
  | true =>
    obtain ⟨v1, v2, v3, v4, v5⟩ := okB_facts hv
    simp only [Option.bind_some, Bool.not_true, cond_false]
    have hcl := cells_length p.fDimensions
    by_cases h0 : 0 ≤ n ∧ n < (count p.fDimensions : Int)
    · have e : cellS p.fDimensions n = ((cells p.fDimensions).getD n.toNat default, true) := by unfold cellS; rw [cpos2 h0.1 h0.2]
      have hn : n.toNat < (cells p.fDimensions).length := by rw [hcl]; omega
      have hcell := getD_mem hn
      obtain ⟨g1, g2, g3⟩ := cells_mem hcell
      rw [e]
      generalize (cells p.fDimensions).getD n.toNat default = cell at *
      simp only [Bool.not_true, cond_false]
      rw [paradigm_Merge_eq hM hp.dims (by omega) hir]
      simp only [Option.bind_some]
      have hml : (pairOf (mergeS p.fDimensions cell inherent)).1.length ≤ 1048576 := by
        cases hm : mergeS p.fDimensions cell inherent with
        | none => simp [pairOf]
        | some m => have := (merge_asc hm).2; simp only [pairOf, Option.getD_some]; omega
      rw [paradigm_Chosen_eq hM hp.slots hml]
      simp only [Option.bind_some]
      cases hm : mergeS p.fDimensions cell inherent with
      | none => rfl
      | some m =>
        show cond (decide (chosenS subsP p.fSlots slot m < 0)) (some true) ((paradigm_Unused 2097152 p [inherent]).bind fun r => pentaglotlaw10_ParadigmUses.l1 2097152 2097152 (chosenS subsP p.fSlots slot m) r slot 0) = some true
        by_cases hk : chosenS subsP p.fSlots slot m < 0
        · rw [cpos hk]
        · rw [cneg hk]
          have h64 : ∀ s ∈ p.fSlots, s.length ≤ 64 := fun s hs => by have := v5 s hs; omega
          rw [paradigm_Unused_eq hM hp.dims hp.slots v2 (by omega) h64 (inh := [inherent]) ⟨by simp, fun r hr => by rw [List.mem_singleton.1 hr]; exact hir⟩]
          have hl := rowsU_length (usedS p.fDimensions p.fSlots [inherent]) p.fSlots 0 h64
          simp only [Option.bind_some]
          refine uses_loop (rowsU_asc _ _) (fun x hx hxe => ?_) (by omega) (rowsU (usedS p.fDimensions p.fSlots [inherent]) 0 p.fSlots).length 2097152 0 (Nat.zero_add _) (by omega)
          obtain ⟨_, hu⟩ := rowsU_mem hx
          obtain ⟨e1, e2⟩ := hxe
          have : usedS p.fDimensions p.fSlots [inherent] x.f0 x.f1 = true := by
            unfold usedS
            refine List.any_eq_true.2 ⟨cell, hcell, ?_⟩
            simp only [List.any_cons, List.any_nil, Bool.or_false, usesOne, hm]
            rw [decide_eq_true_eq, e1, e2, chosen_same v2 (merge_asc hm).1]

          rw [hu] at this
          cases this
    · have e : cellS p.fDimensions n = ([], false) := by unfold cellS; rw [cneg2 h0]
      rw [e]
      rfl

theorem pentaglotlaw10_ParadigmUses_law (x : Tup E.Γ pentaglotlaw10_ParadigmUses.ps) (_ : okTup (okD E 8) pentaglotlaw10_ParadigmUses.ps x) (h : szTup (szD E 8) pentaglotlaw10_ParadigmUses.ps x ≤ 1048576) : (pentaglotlaw10_ParadigmUses.sig 2097152).fn x = some true := by
  obtain ⟨a, p, n, slot, inherent⟩ := x
  exact pentaglotlaw10_ParadigmUses_plain a p n slot inherent h

end Go.Ai.Par
noncomputable section
namespace Go.Proofs.Ytejbamobkncfhaa
open Go Go.Ai Go.Ai.Par Go.RowKit Go.ChangeShapes
set_option maxRecDepth 100000
namespace ParadigmUses

theorem bulkOk {H : Type} : BulkOk (H := H) Rows.uptoBulk Rows.uptoBulkAll where
  str := fun l => by simp [Rows.uptoBulk]
  lit := fun l => by cases l <;> simp [Rows.uptoBulk]
  nil := by simp [Rows.uptoBulk]
  slice := fun xs ys => by simp only [Rows.uptoBulk]; omega
  agg := fun xs => by simp only [Rows.uptoBulk]; omega
  cons := fun x xs => by simp only [Rows.uptoBulkAll]; omega

theorem bound {H : Type} {l : List (DataW H)} (hk : Rows.uptoSmall H l = true) : Rows.uptoBulkAll l ≤ 1048576 := of_decide_eq_true hk
def reads : List Nat := [2, 3, 9, 21, 113, 22, 23, 24, 26, 29, 31, 57, 58, 67, 69, 71, 115]
theorem own : ownKnob Try.prog.godebug = none := by kernel_rfl
theorem laid : laidOutB Try.prog = true := by kernel_rfl

theorem lifted (os : Os) (started : os.Started) (H : Type) (enc : TypeId × Value → H) (F : Stop.Interp) :
    ReturnsInHanded {} Try.checked os 10 .any ((Rows.OpenSpec.upto Rows.paradigmUsesSpec).pre6 enc Try.prog Try.f10 Rows.paradigmUsesUptoRow.domain false) (((Rows.OpenSpec.upto Rows.paradigmUsesSpec).at F).post enc Try.prog Try.f10 false true false false) := by
  refine returnsInHanded_of_cond (C := Try.checked) (s := Rows.OpenSpec.upto Rows.paradigmUsesSpec) (k := Rows.uptoSmall) rfl own started (by kernel_rfl) Try.func10
    (OpenSpec.witness (enc := enc) (C := Try.checked) (s := Rows.OpenSpec.upto Rows.paradigmUsesSpec) (k := Rows.uptoSmall) rfl false ⟨#[], #[.slice none 0 0, .agg #[.string ⟨#[]⟩, .slice none 0 0, .slice none 0 0], .int .i64 0, .int .i64 0, .slice none 0 0], []⟩ 8 (by kernel_rfl) (by kernel_rfl) (by kernel_rfl)
      (x := ([.nil, .agg [.lit (.string []), .nil, .nil], .lit (.int .i64 0), .lit (.int .i64 0), .nil], [], [])) (by kernel_rfl) rfl (by kernel_rfl)) ?_
  intro W base args ds gs before hval hW _ hk _
  exact law_calls (COk_Try (sig := fun _ => none) (it := fun _ => none) (nt := 0) (r1 := []) (r2 := [])) (S := reads) (by kernel_rfl) (szD_ok 8) (okD_ok 8) laid (ps := pentaglotlaw10_ParadigmUses.ps) (by kernel_rfl) (by kernel_rfl) (tb := 4) rfl (by kernel_rfl) (F := (pentaglotlaw10_ParadigmUses.sig 2097152).fn)
    (pentaglotlaw10_ParadigmUses.says 2097152).2 pentaglotlaw10_ParadigmUses_law rfl (fun ds h => match ds, h with | [_, _, _, _, _], _ => rfl) hval hW bulkOk (bound hk)

theorem said : Rows.ParadigmUsesUptoSaid :=
  OpenClaim.holds_of_cond 10 Try.f10 rfl rfl rfl rfl rfl rfl rfl ⟨rfl, rfl, rfl, rfl, rfl⟩ rfl rfl rfl rfl rfl (by kernel_rfl) Try.func10 (by kernel_rfl)
    (of_decide_eq_true (by kernel_rfl)) (by unfold Func.isWrapper; first | (rw [if_pos (by decide +kernel)]; kernel_rfl) | (rw [if_neg (by decide +kernel)]; exact ⟨rfl, rfl⟩))
    (fun os started H enc _ F => lifted os started H enc F)

end ParadigmUses
end Go.Proofs.Ytejbamobkncfhaa
end
