/- A part that the proofs of the laws of this seat share: an interpreter of loaded code over typed values, what it says of the functions that the laws reach, and plain facts on these. -/
import Derived.Test.YtejbamobkncfhaaA0
import Derived.Test.YtejbamobkncfhaaA1
import Derived.Test.YtejbamobkncfhaaA2
import Derived.Test.YtejbamobkncfhaaA3
set_option linter.unusedVariables false
set_option linter.unusedSectionVars false
noncomputable section
namespace Go.Ai.Par
open Go Go.Ai Go.Proofs
noncomputable def sigs18 (M : Nat) : List (Nat × Sig E) := [(16, paradigm_Count.sig M), (36, feature_Get.sig M), (37, slices_Index_string_string.sig M)]
noncomputable def rs18 (M : Nat) : List (Nat × Sig E) := []
noncomputable def its18 (M : Nat) : List (Nat × It E) := []
theorem sigs_ok18 (M : Nat) : SigsOk Try.prog (sigs18 M) := SigsOk.cons (paradigm_Count.says M) (SigsOk.cons (feature_Get.says M) (SigsOk.cons (slices_Index_string_string.says M) (SigsOk.nil)))
theorem rs_ok18 (M : Nat) : SigsOk Try.prog (rs18 M) := SigsOk.nil
theorem its_ok18 (M : Nat) : ItsOk Try.prog (its18 M) := ItsOk.nil
noncomputable def C18 (M : Nat) : Ctx E := { ti := fun t => tisE.lookup t, sig := fun f => (sigs18 M).lookup f, it := fun f => (its18 M).lookup f, nt := 74 }
theorem SigOk_C18 (M : Nat) : SigOk Try.prog (C18 M) := sigs_ok18 M
theorem RSigOk_C18 (M : Nat) : SigOk Try.prog ({ ti := fun _ => none, sig := fun f => (rs18 M).lookup f } : Ctx E) := rs_ok18 M
theorem ItOk_C18 (M : Nat) : ItOk Try.prog (C18 M) := (its_ok18 M).ok
namespace paradigm_Number
noncomputable def plans : List (Option (Plan Nm)) := [none, none, none, none, none, none, some { tmps := [(1, .asis), (5, .asis), (24, .asis), (25, .asis), (26, .asis)], boxes := [] }, none, none, none, none, none, none, none, none, none, some { tmps := [(1, .asis), (5, .asis)], boxes := [] }, none, some { tmps := [(1, .asis), (5, .asis), (11, .asis)], boxes := [] }, none, none, none, none, none, none, none]
noncomputable abbrev body : Code := bodyOf Try.f18
def ps : List (Ty Nm) := [(.st .api_Paradigm), (.sl (.st .api_Feature))]
def rs : List (Ty Nm) := [(.int .i64)]
def ex : List (Option Nat) := [none]
noncomputable def inl : List (Nat × Nat × Nat × Inl Nm) := []
theorem inl_ok : InlsOk Try.prog inl := InlsOk.nil
noncomputable def X (M : Nat) : Ext E Int := extOf (C18 M) (inlOf inl) (fun f => (rs18 M).lookup f) (fun _ _ _ => none) noX M 1
abbrev Rt := Int
noncomputable def H (M : Nat) : Hd E Rt := hd0 (X M)
theorem Hok (M : Nat) : (H M).ok (C18 M) M := hd0_ok _
abbrev Qt3 : List Dir := [.r, .r, .r, .r, .l, .r, .k]
abbrev Ht3 := (List api_Feature) → Int → Int → Option Rt
abbrev Qt2 : List Dir := [.r, .r, .r]
abbrev Ht2 := (List api_Feature) → Int → Option Rt
abbrev Qt1 : List Dir := [.r, .r, .r, .l, .r, .k]
abbrev Ht1 := (List api_Feature) → api_Paradigm → Int → Int → Option Rt
abbrev Zt := List Dir → St E → Option Rt
abbrev Ut := St E → Option Rt
noncomputable def s3 (M : Nat) (h3 : Ht3) (cella1_0 : (List api_Feature)) (n5_2 : Int) (i11_3 : Int) : Option Rt :=
  cond (decide (i11_3 < (cella1_0.length : Int)))
   (cond (decide (0 ≤ IntKind.i64.wrap (i11_3 - 1)) && decide (IntKind.i64.wrap (i11_3 - 1) < (cella1_0.length : Int)))
     (cond (decide (0 ≤ i11_3) && decide (i11_3 < (cella1_0.length : Int)))
       (cond (!(Op.bytesLess ((cella1_0.getD (IntKind.i64.wrap (i11_3 - 1)).toNat default).fName) ((cella1_0.getD i11_3.toNat default).fName)))
         (some (-1))
         (h3 cella1_0 n5_2 (IntKind.i64.wrap (i11_3 + 1))))
       none)
     none)
   (some n5_2)
noncomputable def l3 (M : Nat) : Nat → Ht3
  | 0, _, _, _ => none
  | k + 1, cella1_0, n5_2, i11_3 => s3 M (l3 M k) cella1_0 n5_2 i11_3
noncomputable def s2 (M : Nat) (h3 : Ht3) (cella1_0 : (List api_Feature)) (n5_2 : Int) : Option Rt :=
  h3 cella1_0 n5_2 1
noncomputable def j2 (M : Nat) (cella1_0 : (List api_Feature)) (n5_2 : Int) : Option Rt :=
  s2 M (l3 M M) cella1_0 n5_2
noncomputable def s1 (M : Nat) (h1 : Ht1) (h2 : Ht2) (cella1_0 : (List api_Feature)) (pa0_0 : api_Paradigm) (n5_1 : Int) (x26_1 : Int) : Option Rt :=
  cond (decide (x26_1 < (pa0_0.fDimensions.length : Int)))
   (cond (decide (0 ≤ x26_1) && decide (x26_1 < (pa0_0.fDimensions.length : Int)))
     (Option.bind (feature_Get M cella1_0 ((pa0_0.fDimensions.getD x26_1.toNat default).fName)) fun r34_19 =>
      Option.bind (slices_Index_string_string M ((pa0_0.fDimensions.getD x26_1.toNat default).fValues) r34_19.1) fun r40_20 =>
      cond (!r34_19.2)
       (some (-1))
       (cond (decide (r40_20 < 0))
         (some (-1))
         (h1 cella1_0 pa0_0 (IntKind.i64.wrap ((IntKind.i64.wrap (n5_1 * (((pa0_0.fDimensions.getD x26_1.toNat default).fValues).length : Int))) + r40_20)) (IntKind.i64.wrap (x26_1 + 1)))))
     none)
   (h2 cella1_0 n5_1)
noncomputable def l1 (M : Nat) : Nat → Ht1
  | 0, _, _, _, _ => none
  | k + 1, cella1_0, pa0_0, n5_1, x26_1 => s1 M (l1 M k) (j2 M) cella1_0 pa0_0 n5_1 x26_1
noncomputable def s (M : Nat) (h1 : Ht1) (pa0_0 : api_Paradigm) (cella1_0 : (List api_Feature)) : Option Rt :=
  cond (!decide ((cella1_0.length : Int) = (pa0_0.fDimensions.length : Int)))
   (some (-1))
   (Option.bind (paradigm_Count M pa0_0) fun r20_4 =>
    cond (decide (r20_4 = 0))
     (some (-1))
     (h1 cella1_0 pa0_0 0 0))
end paradigm_Number
noncomputable def paradigm_Number (M : Nat) (pa0_0 : api_Paradigm) (cella1_0 : (List api_Feature)) : Option Int :=
  paradigm_Number.s M (paradigm_Number.l1 M M) pa0_0 cella1_0
namespace paradigm_Number
noncomputable def S3 (cella1_0 : (List api_Feature)) (n5_2 : Int) (i11_3 : Int) : St E :=
  mkSt 74 74 [(1, .one (.tv (.sl (.st .api_Feature) cella1_0))), (5, .one (.tv (.int .i64 n5_2))), (11, .one (.tv (.int .i64 i11_3)))] [] 0 [] [] false
noncomputable def S2 (cella1_0 : (List api_Feature)) (n5_2 : Int) : St E :=
  mkSt 74 74 [(1, .one (.tv (.sl (.st .api_Feature) cella1_0))), (5, .one (.tv (.int .i64 n5_2)))] [] 0 [] [] false
noncomputable def S1 (cella1_0 : (List api_Feature)) (pa0_0 : api_Paradigm) (n5_1 : Int) (x26_1 : Int) : St E :=
  mkSt 74 74 [(1, .one (.tv (.sl (.st .api_Feature) cella1_0))), (5, .one (.tv (.int .i64 n5_1))), (24, .one (.tv (.sl (.st .api_Dimension) pa0_0.fDimensions))), (25, .one (.tv (.int .i64 (pa0_0.fDimensions.length : Int)))), (26, .one (.tv (.int .i64 x26_1)))] [] 0 [] [] false
noncomputable def K (M : Nat) : Cont E Int := kRet (C18 M) Try.f18.results.toList rs ex
noncomputable abbrev zA (M : Nat) (ZL : List Dir → Option (Ut)) (q : List Dir) : Ut := zAt (C18 M) (H M) M 0 ZL body plans (K M) q
noncomputable abbrev lA (M : Nat) (ZL : List Dir → Option (Ut)) (q : List Dir) (k : Nat) : Ut := lpAt (C18 M) (H M) M 0 ZL body plans (K M) q k
noncomputable abbrev gA (M : Nat) (Z : Zt) (q : List Dir) : Ut := seg (C18 M) (H M) 0 Z body plans (K M) q
set_option maxRecDepth 100000
theorem g3 (M : Nat) (Z : Zt) (cella1_0 : (List api_Feature)) (n5_2 : Int) (i11_3 : Int) : gA M Z Qt3 (S3 cella1_0 n5_2 i11_3) = s3 M
    (fun cella1_0 n5_2 i11_3 => Z Qt3 (S3 cella1_0 n5_2 i11_3)) cella1_0 n5_2 i11_3 := by kernel_rfl
theorem g2 (M : Nat) (Z : Zt) (cella1_0 : (List api_Feature)) (n5_2 : Int) : gA M Z Qt2 (S2 cella1_0 n5_2) = s2 M
    (fun cella1_0 n5_2 i11_3 => Z Qt3 (S3 cella1_0 n5_2 i11_3)) cella1_0 n5_2 := by kernel_rfl
theorem g1 (M : Nat) (Z : Zt) (cella1_0 : (List api_Feature)) (pa0_0 : api_Paradigm) (n5_1 : Int) (x26_1 : Int) : gA M Z Qt1 (S1 cella1_0 pa0_0 n5_1 x26_1) = s1 M
    (fun cella1_0 pa0_0 n5_1 x26_1 => Z Qt1 (S1 cella1_0 pa0_0 n5_1 x26_1))
    (fun cella1_0 n5_2 => Z Qt2 (S2 cella1_0 n5_2)) cella1_0 pa0_0 n5_1 x26_1 := by kernel_rfl
theorem g (M : Nat) (Z : Zt) (pa0_0 : api_Paradigm) (cella1_0 : (List api_Feature)) : runZ (C18 M) (extZ (C18 M) (H M) 0) Z body plans (start (argHs ps (pa0_0, cella1_0)) Try.f18.ntmps 74) (K M) = s M
    (fun cella1_0 pa0_0 n5_1 x26_1 => Z Qt1 (S1 cella1_0 pa0_0 n5_1 x26_1)) pa0_0 cella1_0 := by kernel_rfl
theorem el3 (M : Nat) (k : Nat) (cella1_0 : (List api_Feature)) (n5_2 : Int) (i11_3 : Int) : lA M (zlq Qt3 []) Qt3 k (S3 cella1_0 n5_2 i11_3) = l3 M k cella1_0 n5_2 i11_3 := by
  induction k generalizing cella1_0 n5_2 i11_3 with
  | zero => kernel_rfl
  | succ k ih =>
    refine Eq.trans (b := lA M (zlq Qt3 [lA M (zlq Qt3 []) Qt3 k]) Qt3 (k + 1) (S3 cella1_0 n5_2 i11_3)) (by kernel_rfl) ?_
    refine (seg_loop (Hok M) 0 Qt3 body plans (K M) _ (S3 cella1_0 n5_2 i11_3) (around_zlq _ _ (by kernel_rfl)) (by kernel_rfl) (by kernel_rfl)).trans ?_
    refine (g3 M _ cella1_0 n5_2 i11_3).trans ?_
    have x0 := (funext fun cella1_0 => funext fun n5_2 => funext fun i11_3 => Eq.trans (b := lA M (zlq Qt3 []) Qt3 k (S3 cella1_0 n5_2 i11_3)) (by kernel_rfl) (ih cella1_0 n5_2 i11_3) : (fun cella1_0 n5_2 i11_3 => zA M (zlq Qt3 [lA M (zlq Qt3 []) Qt3 k]) Qt3 (S3 cella1_0 n5_2 i11_3)) = l3 M k)
    rw [x0]; rfl
theorem e3 (M : Nat) (cella1_0 : (List api_Feature)) (n5_2 : Int) (i11_3 : Int) : zA M (zlq Qt3 []) Qt3 (S3 cella1_0 n5_2 i11_3) = l3 M M cella1_0 n5_2 i11_3 :=
  Eq.trans (b := lA M (zlq Qt3 []) Qt3 M (S3 cella1_0 n5_2 i11_3)) (by kernel_rfl) (el3 M M cella1_0 n5_2 i11_3)
theorem e2 (M : Nat) (cella1_0 : (List api_Feature)) (n5_2 : Int) : zA M (zlq Qt2 []) Qt2 (S2 cella1_0 n5_2) = j2 M cella1_0 n5_2 := by
  refine (seg_join (Hok M) 0 Qt2 body plans (K M) _ (S2 cella1_0 n5_2) (around_zlq _ _ (by kernel_rfl)) (by kernel_rfl)).trans ?_
  refine (g2 M _ cella1_0 n5_2).trans ?_
  have x0 := (funext fun cella1_0 => funext fun n5_2 => funext fun i11_3 => Eq.trans (b := zA M (zlq Qt3 []) Qt3 (S3 cella1_0 n5_2 i11_3)) (by kernel_rfl) (e3 M cella1_0 n5_2 i11_3) : (fun cella1_0 n5_2 i11_3 => zA M (zlq Qt2 []) Qt3 (S3 cella1_0 n5_2 i11_3)) = l3 M M)
  rw [x0]; rfl
theorem el1 (M : Nat) (k : Nat) (cella1_0 : (List api_Feature)) (pa0_0 : api_Paradigm) (n5_1 : Int) (x26_1 : Int) : lA M (zlq Qt1 []) Qt1 k (S1 cella1_0 pa0_0 n5_1 x26_1) = l1 M k cella1_0 pa0_0 n5_1 x26_1 := by
  induction k generalizing cella1_0 pa0_0 n5_1 x26_1 with
  | zero => kernel_rfl
  | succ k ih =>
    refine Eq.trans (b := lA M (zlq Qt1 [lA M (zlq Qt1 []) Qt1 k]) Qt1 (k + 1) (S1 cella1_0 pa0_0 n5_1 x26_1)) (by kernel_rfl) ?_
    refine (seg_loop (Hok M) 0 Qt1 body plans (K M) _ (S1 cella1_0 pa0_0 n5_1 x26_1) (around_zlq _ _ (by kernel_rfl)) (by kernel_rfl) (by kernel_rfl)).trans ?_
    refine (g1 M _ cella1_0 pa0_0 n5_1 x26_1).trans ?_
    have x0 := (funext fun cella1_0 => funext fun pa0_0 => funext fun n5_1 => funext fun x26_1 => Eq.trans (b := lA M (zlq Qt1 []) Qt1 k (S1 cella1_0 pa0_0 n5_1 x26_1)) (by kernel_rfl) (ih cella1_0 pa0_0 n5_1 x26_1) : (fun cella1_0 pa0_0 n5_1 x26_1 => zA M (zlq Qt1 [lA M (zlq Qt1 []) Qt1 k]) Qt1 (S1 cella1_0 pa0_0 n5_1 x26_1)) = l1 M k)
    have x1 := (funext fun cella1_0 => funext fun n5_2 => Eq.trans (b := zA M (zlq Qt2 []) Qt2 (S2 cella1_0 n5_2)) (by kernel_rfl) (e2 M cella1_0 n5_2) : (fun cella1_0 n5_2 => zA M (zlq Qt1 [lA M (zlq Qt1 []) Qt1 k]) Qt2 (S2 cella1_0 n5_2)) = j2 M)
    rw [x0, x1]; rfl
theorem e1 (M : Nat) (cella1_0 : (List api_Feature)) (pa0_0 : api_Paradigm) (n5_1 : Int) (x26_1 : Int) : zA M (zlq Qt1 []) Qt1 (S1 cella1_0 pa0_0 n5_1 x26_1) = l1 M M cella1_0 pa0_0 n5_1 x26_1 :=
  Eq.trans (b := lA M (zlq Qt1 []) Qt1 M (S1 cella1_0 pa0_0 n5_1 x26_1)) (by kernel_rfl) (el1 M M cella1_0 pa0_0 n5_1 x26_1)
theorem run (M : Nat) (pa0_0 : api_Paradigm) (cella1_0 : (List api_Feature)) : runF (rs := rs) (C18 M) (X M) M body Try.f18.ntmps 74 Try.f18.results.toList plans ps ex (pa0_0, cella1_0) = paradigm_Number M pa0_0 cella1_0 := by
  refine Eq.trans (b := runC (C18 M) (X M) M body plans (start (argHs ps (pa0_0, cella1_0)) Try.f18.ntmps 74) (K M)) (by kernel_rfl) ?_
  refine (zrun (Hok M) 0 body plans _ (K M) (fun _ => none) fun _ => rfl).symm.trans ?_
  refine (g M _ pa0_0 cella1_0).trans ?_
  have x0 := (funext fun cella1_0 => funext fun pa0_0 => funext fun n5_1 => funext fun x26_1 => Eq.trans (b := zA M (zlq Qt1 []) Qt1 (S1 cella1_0 pa0_0 n5_1 x26_1)) (by kernel_rfl) (e1 M cella1_0 pa0_0 n5_1 x26_1) : (fun cella1_0 pa0_0 n5_1 x26_1 => zA M (fun _ => none) Qt1 (S1 cella1_0 pa0_0 n5_1 x26_1)) = l1 M M)
  rw [x0]; rfl
noncomputable def sig (M : Nat) : Sig E := { ps := ps, rs := rs, ex := ex, fn := fun x => paradigm_Number M x.1 x.2 }
theorem says (M : Nat) : callable Try.prog 18 = true ∧ ∀ x y, (sig M).fn x = some y → Says Try.prog 18 (sig M) x y := by
  refine ⟨by kernel_rfl, fun x y h => ?_⟩
  refine says_of_run (S := sig M) (C := C18 M) (X := X M) (M := M) (q := 74) (plans := plans) (COk_Try) (SigOk_C18 M) (ItOk_C18 M) (by kernel_rfl) (callOk_ext COk_Try (SigOk_C18 M) (ItOk_C18 M) (by kernel_rfl) inl_ok.ok (RSigOk_C18 M) (fun _ => callOk_none) M 1) (Try.func18) (body := body) (by kernel_rfl) (by kernel_rfl) ?_
  obtain ⟨pa0_0, cella1_0⟩ := x
  exact (run M pa0_0 cella1_0).trans h
end paradigm_Number
end Go.Ai.Par
end
set_option linter.unusedVariables false
set_option linter.unusedSectionVars false
noncomputable section
namespace Go.Ai.Par
open Go Go.Ai Go.Proofs
noncomputable def sigs19 (M : Nat) : List (Nat × Sig E) := [(14, pentaglotref10_Cells.sig M), (17, pentaglotref02_Same.sig M)]
noncomputable def rs19 (M : Nat) : List (Nat × Sig E) := []
noncomputable def its19 (M : Nat) : List (Nat × It E) := []
theorem sigs_ok19 (M : Nat) : SigsOk Try.prog (sigs19 M) := SigsOk.cons (pentaglotref10_Cells.says M) (SigsOk.cons (pentaglotref02_Same.says M) (SigsOk.nil))
theorem rs_ok19 (M : Nat) : SigsOk Try.prog (rs19 M) := SigsOk.nil
theorem its_ok19 (M : Nat) : ItsOk Try.prog (its19 M) := ItsOk.nil
noncomputable def C19 (M : Nat) : Ctx E := { ti := fun t => tisE.lookup t, sig := fun f => (sigs19 M).lookup f, it := fun f => (its19 M).lookup f, nt := 22 }
theorem SigOk_C19 (M : Nat) : SigOk Try.prog (C19 M) := sigs_ok19 M
theorem RSigOk_C19 (M : Nat) : SigOk Try.prog ({ ti := fun _ => none, sig := fun f => (rs19 M).lookup f } : Ctx E) := rs_ok19 M
theorem ItOk_C19 (M : Nat) : ItOk Try.prog (C19 M) := (its_ok19 M).ok
namespace pentaglotref10_Number
noncomputable def plans : List (Option (Plan Nm)) := [none, none, none, some { tmps := [(1, .asis), (5, .own (100005, 0, 31) (.sl (.st .api_Feature))), (6, .asis)], boxes := [] }, none, none, none, none, none, none, none]
noncomputable abbrev body : Code := bodyOf Try.f19
def ps : List (Ty Nm) := [(.st .api_Paradigm), (.sl (.st .api_Feature))]
def rs : List (Ty Nm) := [(.int .i64)]
def ex : List (Option Nat) := [none]
noncomputable def inl : List (Nat × Nat × Nat × Inl Nm) := []
theorem inl_ok : InlsOk Try.prog inl := InlsOk.nil
noncomputable def X (M : Nat) : Ext E Int := extOf (C19 M) (inlOf inl) (fun f => (rs19 M).lookup f) (fun _ _ _ => none) noX M 1
abbrev Rt := Int
noncomputable def H (M : Nat) : Hd E Rt := hd0 (X M)
theorem Hok (M : Nat) : (H M).ok (C19 M) M := hd0_ok _
abbrev Qt1 : List Dir := [.r, .r, .l, .r, .k]
abbrev Ht1 := (List api_Feature) → (List (List api_Feature)) → Int → Option Rt
abbrev Zt := List Dir → St E → Option Rt
abbrev Ut := St E → Option Rt
noncomputable def s1 (M : Nat) (h1 : Ht1) (cella1_0 : (List api_Feature)) (r8_1 : (List (List api_Feature))) (i6_1 : Int) : Option Rt :=
  cond (decide (i6_1 < (r8_1.length : Int)))
   (cond (decide (0 ≤ i6_1) && decide (i6_1 < (r8_1.length : Int)))
     (Option.bind (pentaglotref02_Same M (r8_1.getD i6_1.toNat default) cella1_0) fun r20_5 =>
      cond (r20_5)
       (some i6_1)
       (h1 cella1_0 r8_1 (IntKind.i64.wrap (i6_1 + 1))))
     none)
   (some (-1))
noncomputable def l1 (M : Nat) : Nat → Ht1
  | 0, _, _, _ => none
  | k + 1, cella1_0, r8_1, i6_1 => s1 M (l1 M k) cella1_0 r8_1 i6_1
noncomputable def s (M : Nat) (h1 : Ht1) (pa0_0 : api_Paradigm) (cella1_0 : (List api_Feature)) : Option Rt :=
  Option.bind (pentaglotref10_Cells M pa0_0) fun r8_1 =>
  h1 cella1_0 r8_1 0
end pentaglotref10_Number
noncomputable def pentaglotref10_Number (M : Nat) (pa0_0 : api_Paradigm) (cella1_0 : (List api_Feature)) : Option Int :=
  pentaglotref10_Number.s M (pentaglotref10_Number.l1 M M) pa0_0 cella1_0
namespace pentaglotref10_Number
noncomputable def S1 (cella1_0 : (List api_Feature)) (r8_1 : (List (List api_Feature))) (i6_1 : Int) : St E :=
  mkSt 22 22 [(1, .one (.tv (.sl (.st .api_Feature) cella1_0))), (5, .one (.tok (100005, 0, 31) (.sl (.st .api_Feature)) r8_1)), (6, .one (.tv (.int .i64 i6_1)))] [] 0 [] [] false
noncomputable def K (M : Nat) : Cont E Int := kRet (C19 M) Try.f19.results.toList rs ex
noncomputable abbrev zA (M : Nat) (ZL : List Dir → Option (Ut)) (q : List Dir) : Ut := zAt (C19 M) (H M) M 0 ZL body plans (K M) q
noncomputable abbrev lA (M : Nat) (ZL : List Dir → Option (Ut)) (q : List Dir) (k : Nat) : Ut := lpAt (C19 M) (H M) M 0 ZL body plans (K M) q k
noncomputable abbrev gA (M : Nat) (Z : Zt) (q : List Dir) : Ut := seg (C19 M) (H M) 0 Z body plans (K M) q
set_option maxRecDepth 100000
theorem g1 (M : Nat) (Z : Zt) (cella1_0 : (List api_Feature)) (r8_1 : (List (List api_Feature))) (i6_1 : Int) : gA M Z Qt1 (S1 cella1_0 r8_1 i6_1) = s1 M
    (fun cella1_0 r8_1 i6_1 => Z Qt1 (S1 cella1_0 r8_1 i6_1)) cella1_0 r8_1 i6_1 := by kernel_rfl
theorem g (M : Nat) (Z : Zt) (pa0_0 : api_Paradigm) (cella1_0 : (List api_Feature)) : runZ (C19 M) (extZ (C19 M) (H M) 0) Z body plans (start (argHs ps (pa0_0, cella1_0)) Try.f19.ntmps 22) (K M) = s M
    (fun cella1_0 r8_1 i6_1 => Z Qt1 (S1 cella1_0 r8_1 i6_1)) pa0_0 cella1_0 := by kernel_rfl
theorem el1 (M : Nat) (k : Nat) (cella1_0 : (List api_Feature)) (r8_1 : (List (List api_Feature))) (i6_1 : Int) : lA M (zlq Qt1 []) Qt1 k (S1 cella1_0 r8_1 i6_1) = l1 M k cella1_0 r8_1 i6_1 := by
  induction k generalizing cella1_0 r8_1 i6_1 with
  | zero => kernel_rfl
  | succ k ih =>
    refine Eq.trans (b := lA M (zlq Qt1 [lA M (zlq Qt1 []) Qt1 k]) Qt1 (k + 1) (S1 cella1_0 r8_1 i6_1)) (by kernel_rfl) ?_
    refine (seg_loop (Hok M) 0 Qt1 body plans (K M) _ (S1 cella1_0 r8_1 i6_1) (around_zlq _ _ (by kernel_rfl)) (by kernel_rfl) (by kernel_rfl)).trans ?_
    refine (g1 M _ cella1_0 r8_1 i6_1).trans ?_
    have x0 := (funext fun cella1_0 => funext fun r8_1 => funext fun i6_1 => Eq.trans (b := lA M (zlq Qt1 []) Qt1 k (S1 cella1_0 r8_1 i6_1)) (by kernel_rfl) (ih cella1_0 r8_1 i6_1) : (fun cella1_0 r8_1 i6_1 => zA M (zlq Qt1 [lA M (zlq Qt1 []) Qt1 k]) Qt1 (S1 cella1_0 r8_1 i6_1)) = l1 M k)
    rw [x0]; rfl
theorem e1 (M : Nat) (cella1_0 : (List api_Feature)) (r8_1 : (List (List api_Feature))) (i6_1 : Int) : zA M (zlq Qt1 []) Qt1 (S1 cella1_0 r8_1 i6_1) = l1 M M cella1_0 r8_1 i6_1 :=
  Eq.trans (b := lA M (zlq Qt1 []) Qt1 M (S1 cella1_0 r8_1 i6_1)) (by kernel_rfl) (el1 M M cella1_0 r8_1 i6_1)
theorem run (M : Nat) (pa0_0 : api_Paradigm) (cella1_0 : (List api_Feature)) : runF (rs := rs) (C19 M) (X M) M body Try.f19.ntmps 22 Try.f19.results.toList plans ps ex (pa0_0, cella1_0) = pentaglotref10_Number M pa0_0 cella1_0 := by
  refine Eq.trans (b := runC (C19 M) (X M) M body plans (start (argHs ps (pa0_0, cella1_0)) Try.f19.ntmps 22) (K M)) (by kernel_rfl) ?_
  refine (zrun (Hok M) 0 body plans _ (K M) (fun _ => none) fun _ => rfl).symm.trans ?_
  refine (g M _ pa0_0 cella1_0).trans ?_
  have x0 := (funext fun cella1_0 => funext fun r8_1 => funext fun i6_1 => Eq.trans (b := zA M (zlq Qt1 []) Qt1 (S1 cella1_0 r8_1 i6_1)) (by kernel_rfl) (e1 M cella1_0 r8_1 i6_1) : (fun cella1_0 r8_1 i6_1 => zA M (fun _ => none) Qt1 (S1 cella1_0 r8_1 i6_1)) = l1 M M)
  rw [x0]; rfl
noncomputable def sig (M : Nat) : Sig E := { ps := ps, rs := rs, ex := ex, fn := fun x => pentaglotref10_Number M x.1 x.2 }
theorem says (M : Nat) : callable Try.prog 19 = true ∧ ∀ x y, (sig M).fn x = some y → Says Try.prog 19 (sig M) x y := by
  refine ⟨by kernel_rfl, fun x y h => ?_⟩
  refine says_of_run (S := sig M) (C := C19 M) (X := X M) (M := M) (q := 22) (plans := plans) (COk_Try) (SigOk_C19 M) (ItOk_C19 M) (by kernel_rfl) (callOk_ext COk_Try (SigOk_C19 M) (ItOk_C19 M) (by kernel_rfl) inl_ok.ok (RSigOk_C19 M) (fun _ => callOk_none) M 1) (Try.func19) (body := body) (by kernel_rfl) (by kernel_rfl) ?_
  obtain ⟨pa0_0, cella1_0⟩ := x
  exact (run M pa0_0 cella1_0).trans h
end pentaglotref10_Number
end Go.Ai.Par
end
namespace Go.Ai.Par
open Go Go.Ai
variable {M : Nat}

/-! ### Dimensions -/
def okDim (d : api_Dimension) : Prop := d.fName.length ≤ 1048576 ∧ d.fValues.length ≤ 1048576 ∧ ∀ v ∈ d.fValues, v.length ≤ 1048576
def okDims (ds : List api_Dimension) : Prop := ds.length ≤ 1048576 ∧ ∀ d ∈ ds, okDim d

def valsF (vals : List (List UInt8)) : Nat → List (List UInt8) → Bool
  | _, [] => true
  | i, v :: r => isName v && !((vals.take i).any fun x => decide (v = x)) && valsF vals (i + 1) r
def dimOk (pre : List api_Dimension) (d : api_Dimension) : Bool := isName d.fName && decide (1 ≤ d.fValues.length) && decide (d.fValues.length ≤ 8) && valsF d.fValues 0 d.fValues && !(pre.any fun e => decide (e.fName = d.fName))
def dimsF (all : List api_Dimension) : Nat → List api_Dimension → Bool
  | _, [] => true
  | i, d :: r => dimOk (all.take i) d && dimsF all (i + 1) r
def dimsOk (ds : List api_Dimension) : Bool := decide (ds.length ≤ 4) && dimsF ds 0 ds

theorem feature_dimensions_eq (hM : 1048576 < M) {ds : List api_Dimension} (hd : okDims ds) : feature_dimensions M ds = some (dimsOk ds) := by
  obtain ⟨hl, hf⟩ := hd
  have prev : ∀ (h1 : List api_Dimension → Int → Option Bool) (i : Nat), i < ds.length → feature_dimensions.j3 M h1 ds i = cond ((ds.take i).any fun e => decide (e.fName = (ds.getD i default).fName)) (some false) (h1 ds ((i + 1 : Nat) : Int)) := by
    intro h1 i hi
    unfold feature_dimensions.j3 feature_dimensions.s3
    rw [cpos2 (by omega) (by omega)]
    refine (over (xs := ds.take i) (f := fun k x (_ : Unit) => feature_dimensions.l4 M h1 k ds i x) (g := fun r _ => cond (r.any fun e => decide (e.fName = (ds.getD i default).fName)) (some false) (h1 ds ((i + 1 : Nat) : Int))) (fun k _ => by
      simp (disch := omega) only [feature_dimensions.l4, feature_dimensions.s4, Int.toNat_natCast, ↓cneg (Int.lt_irrefl _), wsucc, List.any_nil, cond_false]) (fun k q x r _ hq hx ih => by
      have ih := ih ()
      have hq' := hq
      rw [List.length_take] at hq'
      simp (disch := omega) only [feature_dimensions.l4, feature_dimensions.s4, Int.toNat_natCast, ↓cpos, ↓cpos2, wsucc, hx, ih, List.any_cons]
      cases decide (x.fName = (ds.getD i default).fName) <;> rfl) (k := M) (by rw [List.length_take]; omega) ())
  have vals : ∀ (h1 : List api_Dimension → Int → Option Bool) (i : Nat), i < ds.length → feature_dimensions.l2 M h1 M ds i 0 = cond (valsF (ds.getD i default).fValues 0 (ds.getD i default).fValues) (feature_dimensions.j3 M h1 ds i) (some false) := by
    intro h1 i hi
    obtain ⟨hn, hvl, hv⟩ := hf _ (getD_mem hi)
    refine overI (xs := (ds.getD i default).fValues) (f := fun k x (_ : Unit) => feature_dimensions.l2 M h1 k ds i x) (g := fun q r _ => cond (valsF (ds.getD i default).fValues q r) (feature_dimensions.j3 M h1 ds i) (some false)) (fun k _ => by
      simp only [feature_dimensions.l2, feature_dimensions.s2, Int.toNat_natCast, ↓cneg (Int.lt_irrefl _), valsF, cond_true]) (fun k q x r _ hq hx _ _ ih => by
      have ih := ih ()
      have hxl := hv _ (getD_mem hq)
      rw [hx] at hxl
      simp (disch := first | omega | (simp only [len]; omega)) only [feature_dimensions.l2, feature_dimensions.s2, Int.toNat_natCast, ↓cpos, ↓cpos2, wsucc, hx, ih, feature_name_eq hM hxl, Option.bind_some, slices_Contains_eq hM, cnot, valsF]
      cases isName x <;> cases ((ds.getD i default).fValues.take q).any (fun y => decide (x = y)) <;> rfl) (k := M) (by omega) ()
  unfold feature_dimensions feature_dimensions.s dimsOk
  by_cases h4 : ds.length ≤ 4
  · rw [cneg (by omega)]
    have key := overI (xs := ds) (f := fun k i (_ : Unit) => feature_dimensions.l1 M k ds i) (g := fun i r _ => some (dimsF ds i r)) (fun k _ => by
      simp only [feature_dimensions.l1, feature_dimensions.s1, ↓cneg (Int.lt_irrefl _), dimsF]) (fun k i d r _ hi hx _ _ ih => by
      have ih := ih ()
      obtain ⟨hn, hvl, hv⟩ := hf _ (getD_mem hi)
      have hp := prev (feature_dimensions.l1 M k) i hi
      have hvs := vals (feature_dimensions.l1 M k) i hi
      rw [hx] at hn hp hvs
      simp (disch := omega) only [feature_dimensions.l1, feature_dimensions.s1, Int.toNat_natCast, ↓cpos, ↓cpos2, wsucc, hx, hvs, hp, ih, feature_name_eq hM hn, Option.bind_some, cnot, dimsF, dimOk]
      cases isName d.fName with
      | false => rfl
      | true =>
        by_cases h1 : 1 ≤ d.fValues.length
        · rw [cneg (by omega)]
          by_cases h8 : d.fValues.length ≤ 8
          · rw [cneg (by omega)]
            simp only [h1, h8, decide_true]
            cases valsF d.fValues 0 d.fValues <;> cases (ds.take i).any (fun e => decide (e.fName = d.fName)) <;> rfl
          · rw [cpos (by omega)]; simp [h8]
        · rw [cpos (by omega)]; simp [h1]) (k := M) (by omega) ()
    simp only [h4, decide_true, Bool.true_and]
    exact key
  · rw [cpos (by omega)]; simp [h4]

theorem ref02_Dimensions_eq (hM : 1048576 < M) {ds : List api_Dimension} (hd : okDims ds) : pentaglotref02_Dimensions M ds = some (dimsOk ds) := by
  obtain ⟨hl, hf⟩ := hd
  have vals : ∀ (h1 : List api_Dimension → Int → Option Bool) (i : Nat), i < ds.length → pentaglotref02_Dimensions.j3 M h1 ds i = cond (valsF (ds.getD i default).fValues 0 (ds.getD i default).fValues) (h1 ds ((i + 1 : Nat) : Int)) (some false) := by
    intro h1 i hi
    obtain ⟨hn, hvl, hv⟩ := hf _ (getD_mem hi)
    unfold pentaglotref02_Dimensions.j3 pentaglotref02_Dimensions.s3
    refine overI (xs := (ds.getD i default).fValues) (f := fun k x (_ : Unit) => pentaglotref02_Dimensions.l4 M h1 k ds i x) (g := fun q r _ => cond (valsF (ds.getD i default).fValues q r) (h1 ds ((i + 1 : Nat) : Int)) (some false)) (fun k _ => by
      simp (disch := omega) only [pentaglotref02_Dimensions.l4, pentaglotref02_Dimensions.s4, Int.toNat_natCast, ↓cneg (Int.lt_irrefl _), valsF, cond_true, wsucc]) (fun k q x r _ hq hx _ _ ih => by
      have ih := ih ()
      have hxl := hv _ (getD_mem hq)
      rw [hx] at hxl
      simp (disch := first | omega | (simp only [len]; omega)) only [pentaglotref02_Dimensions.l4, pentaglotref02_Dimensions.s4, Int.toNat_natCast, ↓cpos, ↓cpos2, wsucc, hx, ih, ref02_Name_eq hM hxl, Option.bind_some, ref02_In_eq hM, cnot, valsF]
      cases isName x <;> cases ((ds.getD i default).fValues.take q).any (fun y => decide (x = y)) <;> rfl) (k := M) (by omega) ()
  have prev : ∀ (h1 : List api_Dimension → Int → Option Bool) (i : Nat), i < ds.length → pentaglotref02_Dimensions.l2 M h1 M ds i 0 = cond ((ds.take i).any fun e => decide (e.fName = (ds.getD i default).fName)) (some false) (pentaglotref02_Dimensions.j3 M h1 ds i) := by
    intro h1 i hi
    have hlen : (ds.take i).length = i := by rw [List.length_take]; omega
    refine (over (xs := ds.take i) (f := fun k x (_ : Unit) => pentaglotref02_Dimensions.l2 M h1 k ds i x) (g := fun r _ => cond (r.any fun e => decide (e.fName = (ds.getD i default).fName)) (some false) (pentaglotref02_Dimensions.j3 M h1 ds i)) (fun k _ => by
      rw [hlen]
      simp (disch := omega) only [pentaglotref02_Dimensions.l2, pentaglotref02_Dimensions.s2, ↓cneg (Int.lt_irrefl _), List.any_nil, cond_false]) (fun k q x r _ hq hx ih => by
      have ih := ih ()
      rw [hlen] at hq
      have hx' : ds.getD q default = x := by rw [← hx]; simp [List.getElem?_take, hq]
      simp (disch := omega) only [pentaglotref02_Dimensions.l2, pentaglotref02_Dimensions.s2, Int.toNat_natCast, ↓cpos, ↓cpos2, wsucc, hx', ih, List.any_cons]
      cases decide (x.fName = (ds.getD i default).fName) <;> rfl) (k := M) (by omega) ())
  unfold pentaglotref02_Dimensions pentaglotref02_Dimensions.s dimsOk
  by_cases h4 : ds.length ≤ 4
  · rw [cneg (by omega)]
    have key := overI (xs := ds) (f := fun k i (_ : Unit) => pentaglotref02_Dimensions.l1 M k ds i) (g := fun i r _ => some (dimsF ds i r)) (fun k _ => by
      simp only [pentaglotref02_Dimensions.l1, pentaglotref02_Dimensions.s1, ↓cneg (Int.lt_irrefl _), dimsF]) (fun k i d r _ hi hx _ _ ih => by
      have ih := ih ()
      obtain ⟨hn, hvl, hv⟩ := hf _ (getD_mem hi)
      have hp := prev (pentaglotref02_Dimensions.l1 M k) i hi
      have hvs := vals (pentaglotref02_Dimensions.l1 M k) i hi
      rw [hx] at hn hp hvs
      simp (disch := omega) only [pentaglotref02_Dimensions.l1, pentaglotref02_Dimensions.s1, Int.toNat_natCast, ↓cpos, ↓cpos2, wsucc, hx, hvs, hp, ih, ref02_Name_eq hM hn, Option.bind_some, cnot, dimsF, dimOk]
      cases isName d.fName with
      | false => rfl
      | true =>
        by_cases h1 : 1 ≤ d.fValues.length
        · rw [cneg (by omega)]
          by_cases h8 : d.fValues.length ≤ 8
          · rw [cneg (by omega)]
            simp only [h1, h8, decide_true]
            cases valsF d.fValues 0 d.fValues <;> cases (ds.take i).any (fun e => decide (e.fName = d.fName)) <;> rfl
          · rw [cpos (by omega)]; simp [h8]
        · rw [cpos (by omega)]; simp [h1]) (k := M) (by omega) ()
    simp only [h4, decide_true, Bool.true_and]
    exact key
  · rw [cpos (by omega)]; simp [h4]

/-- What valid dimensions are. -/
structure GoodDims (ds : List api_Dimension) : Prop where
  four : ds.length ≤ 4
  vals : ∀ d ∈ ds, 1 ≤ d.fValues.length ∧ d.fValues.length ≤ 8
  names : ds.Pairwise fun d e => d.fName ≠ e.fName
  good : ∀ d ∈ ds, isName d.fName = true ∧ ∀ v ∈ d.fValues, isName v = true

theorem valsF_names {vals : List (List UInt8)} : ∀ {r : List (List UInt8)} {i : Nat}, valsF vals i r = true → ∀ v ∈ r, isName v = true
  | [], _, _, v, hv => by cases hv
  | x :: r, i, h, v, hv => by
    simp only [valsF, Bool.and_eq_true] at h
    rcases List.mem_cons.1 hv with rfl | hv
    · exact h.1.1
    · exact valsF_names h.2 v hv

theorem dimsF_good {all : List api_Dimension} : ∀ {r : List api_Dimension} {i : Nat}, all.drop i = r → dimsF all i r = true →
    (∀ d ∈ r, 1 ≤ d.fValues.length ∧ d.fValues.length ≤ 8) ∧ (r.Pairwise fun d e => d.fName ≠ e.fName) ∧ (∀ d ∈ r, isName d.fName = true ∧ ∀ v ∈ d.fValues, isName v = true) ∧ ∀ d ∈ all.take i, ∀ e ∈ r, d.fName ≠ e.fName
  | [], i, _, _ => ⟨fun d h => (by cases h), List.Pairwise.nil, fun d h => (by cases h), fun d _ e h => (by cases h)⟩
  | d :: r, i, hd, h => by
    simp only [dimsF, dimOk, Bool.and_eq_true, decide_eq_true_eq, Bool.not_eq_true', List.any_eq_false] at h
    obtain ⟨⟨⟨⟨⟨h1, h2⟩, h3⟩, h4⟩, h5⟩, h6⟩ := h
    have hi : i < all.length := by
      rcases Nat.lt_or_ge i all.length with h | h
      · exact h
      · rw [List.drop_of_length_le h] at hd; cases hd
    have hd' : all.drop (i + 1) = r := by
      have := List.drop_eq_getElem_cons hi
      rw [hd] at this
      exact (List.cons.inj this).2.symm
    have hdi : all[i] = d := by
      have := List.drop_eq_getElem_cons hi
      rw [hd] at this
      exact (List.cons.inj this).1.symm
    obtain ⟨g1, g2, g3, g4⟩ := dimsF_good hd' h6
    have htake : all.take (i + 1) = all.take i ++ [d] := by rw [List.take_succ_eq_append_getElem hi, hdi]
    rw [htake] at g4
    refine ⟨fun e he => ?_, List.pairwise_cons.2 ⟨fun e he => g4 d (by simp) e he, g2⟩, fun e he => ?_, fun c hc e he => ?_⟩
    · rcases List.mem_cons.1 he with rfl | he
      · exact ⟨h2, h3⟩
      · exact g1 e he
    · rcases List.mem_cons.1 he with rfl | he
      · exact ⟨h1, valsF_names h4⟩
      · exact g3 e he
    · rcases List.mem_cons.1 he with rfl | he
      · have := h5 c hc
        simpa using this
      · exact g4 c (by simp [hc]) e he

theorem dimsOk_good {ds : List api_Dimension} (h : dimsOk ds = true) : GoodDims ds := by
  simp only [dimsOk, Bool.and_eq_true, decide_eq_true_eq] at h
  obtain ⟨h1, h2, h3, h4⟩ := dimsF_good (i := 0) (by simp) h.2
  exact ⟨h.1, h1, h2, h3⟩

end Go.Ai.Par
namespace Go.Ai.Par
open Go Go.Ai
variable {M : Nat}

/-! ### All records -/
def choices : List api_Dimension → List (List api_Feature)
  | [] => [[]]
  | d :: ds => d.fValues.flatMap fun v => (choices ds).map (⟨d.fName, v⟩ :: ·)

def prod : List api_Dimension → Nat
  | [] => 1
  | d :: ds => d.fValues.length * prod ds

theorem choices_length : ∀ ds : List api_Dimension, (choices ds).length = prod ds
  | [] => rfl
  | d :: ds => by
    simp only [choices, prod, List.length_flatMap, List.length_map, choices_length ds]
    rw [List.map_const', List.sum_replicate_nat]

theorem prod_le : ∀ {ds : List api_Dimension}, (∀ d ∈ ds, d.fValues.length ≤ 8) → prod ds ≤ 8 ^ ds.length
  | [], _ => Nat.le_refl _
  | d :: ds, h => by
    simp only [prod, List.length_cons, Nat.pow_succ]
    rw [Nat.mul_comm]
    exact Nat.mul_le_mul (prod_le fun d hd => h d (List.mem_cons_of_mem _ hd)) (h d (by simp))

theorem prod_pos : ∀ {ds : List api_Dimension}, (∀ d ∈ ds, 1 ≤ d.fValues.length) → 0 < prod ds
  | [], _ => Nat.zero_lt_one
  | d :: ds, h => Nat.mul_pos (h d (by simp)) (prod_pos fun d hd => h d (List.mem_cons_of_mem _ hd))

theorem choices_names : ∀ {ds : List api_Dimension} {c : List api_Feature}, c ∈ choices ds → c.map (·.fName) = ds.map (·.fName)
  | [], c, h => by simp [choices] at h; simp [h]
  | d :: ds, c, h => by
    simp only [choices, List.mem_flatMap, List.mem_map] at h
    obtain ⟨v, _, c', hc, rfl⟩ := h
    simp [choices_names hc]

theorem distinct_of_names {c : List api_Feature} {ds : List api_Dimension} (h : c.map (·.fName) = ds.map (·.fName)) (hd : ds.Pairwise fun d e => d.fName ≠ e.fName) : Distinct c := by
  have h1 : (ds.map (·.fName)).Pairwise (· ≠ ·) := List.pairwise_map.2 hd
  rw [← h] at h1
  exact List.pairwise_map.1 h1

def allF (ds : List api_Dimension) : List (List api_Feature) := (choices ds).map rec

theorem allF_length (ds : List api_Dimension) : (allF ds).length = prod ds := by simp [allF, choices_length]

theorem allV (hM : 1048576 < M) {ds : List api_Dimension} (hg : GoodDims ds) : ∀ (r : List api_Dimension) (i k : Nat) (c : List api_Feature), ds.drop i = r → i + r.length = ds.length → r.length < k → c.length = i →
    feature_All_1_1.V M k ds ds ((i : Int), c) = some ((choices r).map fun x => sortF (c ++ x)) := by
  have h4 := hg.four
  intro r
  induction r with
  | nil =>
    intro i k c hd hi hk hc
    obtain ⟨k, rfl⟩ := Nat.exists_eq_succ_of_ne_zero (by omega : k ≠ 0)
    simp only [List.length_nil] at hi
    have e : @feature_All_1_1 ⟨feature_All_1_1.V M k ds ds⟩ M (i : Int) c ds = some ([sortF c], true) := by
      unfold feature_All_1_1 feature_All_1_1.s
      simp (disch := first | omega | (simp only [len, len0]; omega)) only [↓cpos, List.nil_append, sortFeatures_eq, Option.bind_some]
      rfl
    simp only [Nat.succ_eq_add_one, feature_All_1_1.V]
    rw [e]
    simp [choices]
  | cons d r ih =>
    intro i k c hd hi hk hc
    simp only [List.length_cons] at hi hk
    obtain ⟨k, rfl⟩ := Nat.exists_eq_succ_of_ne_zero (by omega : k ≠ 0)
    have hil : i < ds.length := by omega
    obtain ⟨d', r', g1, g2, g3⟩ := dropCons hil
    rw [hd] at g1
    cases g1
    obtain ⟨v1, v2⟩ := hg.vals d (by rw [← g2]; exact getD_mem hil)
    have e : @feature_All_1_1 ⟨feature_All_1_1.V M k ds ds⟩ M (i : Int) c ds = some (d.fValues.flatMap fun v => (choices r).map fun x => sortF (c ++ [⟨d.fName, v⟩] ++ x), true) := by
      unfold feature_All_1_1 feature_All_1_1.s
      simp (disch := omega) only [↓cneg, ↓cpos2]
      refine over (xs := d.fValues) (f := fun q x (_ : Unit) => @feature_All_1_1.l1 ⟨feature_All_1_1.V M k ds ds⟩ M q ds c (i : Int) x) (g := fun vs _ => some (vs.flatMap fun v => (choices r).map fun x => sortF (c ++ [⟨d.fName, v⟩] ++ x), true)) (fun q _ => by
        simp only [feature_All_1_1.l1, feature_All_1_1.s1, Int.toNat_natCast, g2, ↓cneg (Int.lt_irrefl _)]
        rfl) (fun q j v vs _ hj hv ih' => by
        have ih' := ih' ()
        have ihv := ih (i + 1) k (c ++ [⟨d.fName, v⟩]) g3 (by omega) (by omega) (by simp [hc])
        have hct : c.take i = c := by rw [List.take_of_length_le (by omega)]
        have hlim : (c.length + [(⟨d.fName, v⟩ : api_Feature)].length ≤ lim) := by simp only [len, len0]; omega
        simp only [feature_All_1_1.l1, feature_All_1_1.s1, Int.toNat_natCast, g2, hct, hv]
        rw [cpos (by omega), cpos2 (by omega) (by omega)]
        rw [cpos3 (by omega) (by omega) trivial]
        rw [cpos2 (by omega) (by omega), cpos2 (by simp) hlim]
        rw [wsucc (by omega), wsucc (by omega), ihv, ih']
        simp only [Option.bind_some, Bool.not_true, Bool.not_false, cond_true, cond_false, emits2, List.flatMap_cons]) (k := M) (by omega) ()
    simp only [Nat.succ_eq_add_one, feature_All_1_1.V]
    rw [e]
    simp only [choices, List.map_flatMap, List.map_map]
    congr 1
    congr 1
    funext v
    congr 1
    funext x
    simp

theorem feature_All_eq (hM : 1048576 < M) {ds : List api_Dimension} (hd : okDims ds) : feature_All_1 M ds = some (cond (dimsOk ds) (allF ds) []) := by
  unfold feature_All_1 feature_All_1.s
  rw [feature_dimensions_eq hM hd, Option.bind_some]
  cases h : dimsOk ds with
  | false => rfl
  | true =>
    have hg := dimsOk_good h
    have h4 := hg.four
    have := allV hM hg ds 0 M [] (by simp) (by simp) (by omega) rfl
    simp only [Bool.not_true, cond_false, cond_true]
    have e : ((0 : Nat) : Int) = 0 := rfl
    rw [e] at this
    rw [this]
    simp only [Option.bind_some, emits, List.append_nil, List.nil_append, allF]
    congr 1
    refine List.map_congr_left fun c hc => ?_
    exact sortF_rec (distinct_of_names (choices_names hc) hg.names)

/-! ### The reference's list of all records -/
def stepAll (d : api_Dimension) (out : List (List api_Feature)) : List (List api_Feature) := out.flatMap fun r => d.fValues.map fun v => put r ⟨d.fName, v⟩

theorem foldAll : ∀ (ds : List api_Dimension) (out : List (List api_Feature)), ds.foldl (fun o d => stepAll d o) out = out.flatMap fun r => (choices ds).map fun c => c.foldl put r
  | [], out => by simp [choices]
  | d :: ds, out => by
    rw [List.foldl_cons, foldAll ds, stepAll]
    simp only [choices, List.flatMap_assoc, List.flatMap_map, List.map_flatMap, List.map_map]
    rfl

theorem ref02_All_eq (hM : 1048576 < M) {ds : List api_Dimension} (hd : okDims ds) : pentaglotref02_All M ds = some (cond (dimsOk ds) (allF ds) []) := by
  unfold pentaglotref02_All pentaglotref02_All.s
  rw [ref02_Dimensions_eq hM hd, Option.bind_some]
  cases h : dimsOk ds with
  | false => rfl
  | true =>
    have hg := dimsOk_good h
    have h4 := hg.four
    simp only [Bool.not_true, cond_false, cond_true]
    have key := overJ (xs := ds) (f := fun k i (out : List (List api_Feature)) => pentaglotref02_All.l1 M k ds out i) (g := fun _ r out => some (r.foldl (fun o d => stepAll d o) out)) (I := fun i out => out.length ≤ 8 ^ i ∧ ∀ x ∈ out, x.length = i) (fun k out _ => by
      simp only [pentaglotref02_All.l1, pentaglotref02_All.s1, ↓cneg (Int.lt_irrefl _), List.foldl_nil]) (fun k i d r out hi hout hx _ _ ih => by
      obtain ⟨ho1, ho2⟩ := hout
      obtain ⟨v1, v2⟩ := hg.vals d (by rw [← hx]; exact getD_mem hi)
      have hi4 : i ≤ 3 := by omega
      have h8 : 8 ^ i ≤ 512 := by
        have : 8 ^ i ≤ 8 ^ 3 := Nat.pow_le_pow_right (by omega) hi4
        simpa using this
      have inner : ∀ (h1 : List api_Dimension → Int → List (List api_Feature) → List (List api_Feature) → Int → Option (List (List api_Feature))) (k' : Nat) (nx : List (List api_Feature)) (q : Nat) (x : List api_Feature), q < out.length → out.getD q default = x → x.length = i → nx.length ≤ 8 * q →
          pentaglotref02_All.l3 M h1 M ds i q out nx 0 = h1 ds i out (nx ++ d.fValues.map fun v => put x ⟨d.fName, v⟩) ((q + 1 : Nat) : Int) := by
        intro h1 k' nx q x hq hxq hxl hnl
        refine overJ (xs := d.fValues) (f := fun f j (s : List (List api_Feature)) => pentaglotref02_All.l3 M h1 f ds i q out s j) (g := fun _ vs s => h1 ds i out (s ++ vs.map fun v => put x ⟨d.fName, v⟩) ((q + 1 : Nat) : Int)) (I := fun j s => s.length ≤ 8 * q + j) (fun f s _ => by
          simp (disch := omega) only [pentaglotref02_All.l3, pentaglotref02_All.s3, Int.toNat_natCast, ↓cpos2, hx, ↓cneg (Int.lt_irrefl _), List.map_nil, List.append_nil, wsucc]) (fun f j v vs s hj hs hv _ _ ih' => by
          simp (disch := first | omega | (simp only [len, len0]; omega)) only [pentaglotref02_All.l3, pentaglotref02_All.s3, Int.toNat_natCast, ↓cpos, ↓cpos2, hx, hxq, hv, ref02_Put_eq hM, Option.bind_some, wsucc]
          rw [ih' _ (by simp; omega)]
          simp) (k := M) (by omega) (s := nx) (by omega)
      have mid : ∀ (h1 : List api_Dimension → List (List api_Feature) → Int → Option (List (List api_Feature))), pentaglotref02_All.l2 M h1 M ds i out [] 0 = h1 ds (stepAll d out) ((i + 1 : Nat) : Int) := by
        intro h1
        refine overJ (xs := out) (f := fun f q (s : List (List api_Feature)) => pentaglotref02_All.l2 M h1 f ds i out s q) (g := fun _ rest s => h1 ds (s ++ stepAll d rest) ((i + 1 : Nat) : Int)) (I := fun q s => s.length ≤ 8 * q) (fun f s _ => by
          simp (disch := omega) only [pentaglotref02_All.l2, pentaglotref02_All.s2, wsucc, ↓cneg (Int.lt_irrefl _), stepAll, List.flatMap_nil, List.append_nil]) (fun f q x rest s hq hs hxq _ _ ih' => by
          have hxl := ho2 x (by rw [← hxq]; exact getD_mem hq)
          simp (disch := omega) only [pentaglotref02_All.l2, pentaglotref02_All.s2, ↓cpos]
          rw [inner _ f s q x hq hxq hxl hs, ih' _ (by simp; omega)]
          simp only [stepAll, List.flatMap_cons, List.append_assoc]) (k := M) (by omega) (s := []) (by simp)
      simp (disch := omega) only [pentaglotref02_All.l1, pentaglotref02_All.s1, ↓cpos]
      rw [mid, ih (stepAll d out) ⟨?_, ?_⟩]
      · rfl
      · simp only [stepAll, List.length_flatMap, List.length_map]
        rw [List.map_const', List.sum_replicate_nat, Nat.pow_succ]
        exact Nat.mul_le_mul ho1 v2
      · intro y hy
        simp only [stepAll, List.mem_flatMap, List.mem_map] at hy
        obtain ⟨x, hx1, v, _, rfl⟩ := hy
        rw [put_length, ho2 x hx1]) (k := M) (by omega) (s := [[]]) ⟨by simp, by simp⟩
    refine key.trans ?_
    rw [foldAll]
    simp [allF, rec]

end Go.Ai.Par
namespace Go.Ai.Par
open Go Go.Ai
variable {M : Nat}

/-! ### Counting cells -/
def count (ds : List api_Dimension) : Nat := cond (dimsOk ds) (prod ds) 0
def cells (ds : List api_Dimension) : List (List api_Feature) := cond (dimsOk ds) (allF ds) []

theorem cells_length (ds : List api_Dimension) : (cells ds).length = count ds := by
  unfold cells count
  cases dimsOk ds <;> simp [allF_length]

theorem count_le (ds : List api_Dimension) : count ds ≤ 4096 := by
  unfold count
  cases h : dimsOk ds with
  | false => simp
  | true =>
    have hg := dimsOk_good h
    have h1 := prod_le fun d hd => (hg.vals d hd).2
    have h2 : 8 ^ ds.length ≤ 8 ^ 4 := Nat.pow_le_pow_right (by omega) hg.four
    simp only [cond_true]
    have : (8 : Nat) ^ 4 = 4096 := by decide
    omega

theorem paradigm_Count_eq (hM : 1048576 < M) {p : api_Paradigm} (hd : okDims p.fDimensions) : paradigm_Count M p = some (count p.fDimensions : Int) := by
  obtain ⟨k, hk⟩ := Nat.exists_eq_succ_of_ne_zero (by omega : M ≠ 0)
  unfold paradigm_Count paradigm_Count.s
  rw [feature_All_eq hM hd, Option.bind_some]
  have e : ∀ l, paradigm_Count.l1 M M p l = lcase l (some 0) (fun _ xs => paradigm_Count.l2 M M p xs 1 0) := by
    intro l
    conv => lhs; arg 2; rw [hk]
    simp only [Nat.succ_eq_add_one, paradigm_Count.l1, paradigm_Count.s1]
  rw [e]
  unfold count
  cases h : dimsOk p.fDimensions with
  | false => rfl
  | true =>
    have hg := dimsOk_good h
    have h4 := hg.four
    simp only [cond_true]
    have hpos : 0 < (allF p.fDimensions).length := by rw [allF_length]; exact prod_pos fun d hd => (hg.vals d hd).1
    cases hl : allF p.fDimensions with
    | nil => rw [hl] at hpos; simp at hpos
    | cons x xs =>
      simp only [lcase]
      have key := overJ (xs := p.fDimensions) (f := fun k i (n : Nat) => paradigm_Count.l2 M k p xs (n : Int) i) (g := fun _ r n => some ((n * prod r : Nat) : Int)) (I := fun i n => n ≤ 8 ^ i) (fun k n _ => by
        simp only [paradigm_Count.l2, paradigm_Count.s2, ↓cneg (Int.lt_irrefl _), prod, Nat.mul_one]) (fun k i d r n hi hn hx _ _ ih => by
        obtain ⟨v1, v2⟩ := hg.vals d (by rw [← hx]; exact getD_mem hi)
        have h8 : 8 ^ i ≤ 8 ^ 3 := Nat.pow_le_pow_right (by omega) (by omega)
        have h8' : (8 : Nat) ^ 3 = 512 := by decide
        have hb : n * d.fValues.length ≤ 512 * 8 := Nat.mul_le_mul (by omega) v2
        have hw : IntKind.i64.wrap ((n : Int) * (d.fValues.length : Int)) = ((n * d.fValues.length : Nat) : Int) := by
          rw [wrap64]
          · simp
          · have : (0 : Int) ≤ (n : Int) * (d.fValues.length : Int) := Int.mul_nonneg (by omega) (by omega)
            omega
          · have : ((n * d.fValues.length : Nat) : Int) ≤ 4096 := by omega
            simp at this
            omega
        simp (disch := omega) only [paradigm_Count.l2, paradigm_Count.s2, Int.toNat_natCast, ↓cpos, ↓cpos2, hx, hw, wsucc]
        rw [ih _ (by rw [Nat.pow_succ]; exact Nat.mul_le_mul hn v2)]
        simp only [prod, Nat.mul_assoc]) (k := M) (by omega) (s := 1) (by simp)
      simp only [Nat.one_mul] at key
      exact key

def cellS (ds : List api_Dimension) (n : Int) : List api_Feature × Bool := cond (decide (0 ≤ n) && decide (n < (count ds : Int))) ((cells ds).getD n.toNat default, true) ([], false)

theorem paradigm_Cell_eq (hM : 1048576 < M) {p : api_Paradigm} (hd : okDims p.fDimensions) (n : Int) : paradigm_Cell M p n = some (cellS p.fDimensions n) := by
  unfold paradigm_Cell paradigm_Cell.s cellS
  rw [paradigm_Count_eq hM hd, feature_All_eq hM hd]
  simp only [Option.bind_some]
  have hc := count_le p.fDimensions
  by_cases h0 : n < 0
  · rw [cpos h0, cneg2 (by omega)]
  · rw [cneg h0]
    by_cases h1 : (count p.fDimensions : Int) ≤ n
    · rw [cpos h1, cneg2 (by omega)]
    · rw [cneg h1, cpos2 (by omega) (by omega)]
      have key : ∀ (xs : List (List api_Feature)) (k i : Nat), xs.length < k → (i : Int) ≤ n → n < i + xs.length → i + xs.length ≤ 4096 → paradigm_Cell.l1 M k n xs i = some (xs.getD (n.toNat - i) default, true) := by
        intro xs
        induction xs with
        | nil => intro k i hk h2 h3; simp at h3; omega
        | cons x xs ih =>
          intro k i hk h2 h3 h4
          simp only [List.length_cons] at hk h3 h4
          obtain ⟨k, rfl⟩ := Nat.exists_eq_succ_of_ne_zero (by omega : k ≠ 0)
          simp only [Nat.succ_eq_add_one, paradigm_Cell.l1, paradigm_Cell.s1, lcase]
          by_cases hin : (i : Int) = n
          · rw [cpos hin]
            have : n.toNat - i = 0 := by omega
            rw [this]; rfl
          · rw [cneg hin, wsucc (by omega), ih k (i + 1) (by omega) (by omega) (by omega) (by omega)]
            have : n.toNat - i = n.toNat - (i + 1) + 1 := by omega
            rw [this]; rfl
      have := key (cells p.fDimensions) M 0 (by rw [cells_length]; omega) (by omega) (by rw [cells_length]; omega) (by rw [cells_length]; omega)
      simpa [cells] using this

/-! ### The number of a cell -/
def numD (cell : List api_Feature) : List api_Dimension → Int → Option Int
  | [], n => some n
  | d :: ds, n => match getF cell d.fName with
    | none => none
    | some v => cond (decide (fstIdx (fun x => decide (v = x)) d.fValues 0 < 0)) none (numD cell ds (n * d.fValues.length + fstIdx (fun x => decide (v = x)) d.fValues 0))

def numP (ds : List api_Dimension) (cell : List api_Feature) : Int := cond (decide (cell.length = ds.length) && dimsOk ds) (match numD cell ds 0 with
  | none => -1
  | some n => cond (isRec cell) n (-1)) (-1)

theorem paradigm_Number_eq (hM : 1048576 < M) {p : api_Paradigm} (hd : okDims p.fDimensions) {cell : List api_Feature} (hc : cell.length ≤ 1048576) : paradigm_Number M p cell = some (numP p.fDimensions cell) := by
  unfold paradigm_Number paradigm_Number.s numP
  rw [paradigm_Count_eq hM hd, Option.bind_some]
  by_cases hl : cell.length = p.fDimensions.length
  · have e : (!decide ((cell.length : Int) = (p.fDimensions.length : Int))) = false := by simp [hl]
    rw [e, cond_false]
    cases h : dimsOk p.fDimensions with
    | false =>
      have : count p.fDimensions = 0 := by simp [count, h]
      rw [this]; simp
    | true =>
      have hg := dimsOk_good h
      have h4 := hg.four
      have hcp : count p.fDimensions ≠ 0 := by
        have := prod_pos fun d hd => (hg.vals d hd).1
        simp [count, h]; omega
      rw [cneg (by omega)]
      simp only [hl, decide_true, Bool.and_self, cond_true]
      have fin : ∀ n : Int, paradigm_Number.j2 M cell n = some (cond (isRec cell) n (-1)) := by
        intro n
        unfold paradigm_Number.j2 paradigm_Number.s2 isRec
        cases cell with
        | nil =>
          obtain ⟨k, rfl⟩ := Nat.exists_eq_succ_of_ne_zero (by omega : M ≠ 0)
          rfl
        | cons f r =>
          have key := uptoFrom (lo := 1) (n := (f :: r).length) (f := fun k i (_ : Unit) => paradigm_Number.l3 M k (f :: r) n i) (g := fun i _ => some (cond (asc (some ((f :: r).getD (i - 1) default)) ((f :: r).drop i)) n (-1))) (fun k _ => by
            simp only [paradigm_Number.l3, paradigm_Number.s3, ↓cneg (Int.lt_irrefl _), List.drop_length, asc, cond_true]) (fun k i _ hlo hi ih => by
            have ih := ih ()
            obtain ⟨i, rfl⟩ := Nat.exists_eq_succ_of_ne_zero (by omega : i ≠ 0)
            obtain ⟨y, t, e2, g2, e3⟩ := dropCons (xs := f :: r) (i := i + 1) hi
            have w : IntKind.i64.wrap (((i + 1 : Nat) : Int) - 1) = (i : Int) := by rw [wrap64] <;> omega
            simp only [Nat.succ_eq_add_one, Nat.add_sub_cancel, g2, e3] at ih ⊢
            simp (disch := omega) only [paradigm_Number.l3, paradigm_Number.s3, w, ↓cpos, ↓cpos2, Int.toNat_natCast, wsucc, ih, e2, g2, asc, cnot]
            cases Op.bytesLess ((f :: r).getD i default).fName y.fName <;> rfl) r.length M 1 () (by omega) (by simp; omega) (by simp at hc; omega)
          exact key
      have key := overJ (xs := p.fDimensions) (f := fun k i (n : Int) => paradigm_Number.l1 M k cell p n i) (g := fun _ r n => some (match numD cell r n with
          | none => -1
          | some n => cond (isRec cell) n (-1))) (I := fun i n => 0 ≤ n ∧ n < ((8 ^ i : Nat) : Int)) (fun k n _ => by
        simp only [paradigm_Number.l1, paradigm_Number.s1, ↓cneg (Int.lt_irrefl _), numD, fin]) (fun k i d r n hi hn hx _ _ ih => by
        obtain ⟨hn1, hn2⟩ := hn
        obtain ⟨v1, v2⟩ := hg.vals d (by rw [← hx]; exact getD_mem hi)
        have h8 : 8 ^ i ≤ 8 ^ 3 := Nat.pow_le_pow_right (by omega) (by omega)
        have h8' : (8 : Nat) ^ 3 = 512 := by decide
        simp (disch := omega) only [paradigm_Number.l1, paradigm_Number.s1, Int.toNat_natCast, ↓cpos, ↓cpos2, hx, feature_Get_eq hM hc, slices_Index_eq hM, Option.bind_some, wsucc, cnot, numD]
        cases hgf : getF cell d.fName with
        | none => rfl
        | some v =>
          simp only [Option.getD_some, Option.isSome_some, cond_true]
          have hlt := fstIdx_lt (fun x => decide (v = x)) d.fValues
          by_cases hk : fstIdx (fun x => decide (v = x)) d.fValues 0 < 0
          · rw [cpos hk, cpos hk]
          · rw [cneg hk, cneg hk]
            have hnl : n * (d.fValues.length : Int) ≤ 512 * 8 := Int.mul_le_mul (by omega) (by omega) (by omega) (by omega)
            have hnl0 : 0 ≤ n * (d.fValues.length : Int) := Int.mul_nonneg hn1 (by omega)
            have hpow : n * (d.fValues.length : Int) + (d.fValues.length : Int) ≤ ((8 ^ (i + 1) : Nat) : Int) := by
              have e1 : (n + 1) * (d.fValues.length : Int) ≤ ((8 ^ i : Nat) : Int) * 8 := Int.mul_le_mul (by omega) (by omega) (by omega) (by omega)
              have e2 : (n + 1) * (d.fValues.length : Int) = n * (d.fValues.length : Int) + d.fValues.length := by rw [Int.add_mul, Int.one_mul]
              have e3 : ((8 ^ (i + 1) : Nat) : Int) = ((8 ^ i : Nat) : Int) * 8 := by rw [Nat.pow_succ]; simp
              omega
            rw [wrap64 (n := n * (d.fValues.length : Int)) (by omega) (by omega), wrap64 (by omega) (by omega)]
            exact ih _ ⟨by omega, by omega⟩) (k := M) (by omega) (s := 0) ⟨by omega, by simp⟩
      exact key
  · have e : (!decide ((cell.length : Int) = (p.fDimensions.length : Int))) = true := by simp; omega
    rw [e, cond_true]
    simp [hl]

def numR (ds : List api_Dimension) (cell : List api_Feature) : Int := fstIdx (fun c => decide (c = cell)) (cells ds) 0

theorem ref10_Cells_eq (hM : 1048576 < M) {p : api_Paradigm} (hd : okDims p.fDimensions) : pentaglotref10_Cells M p = some (cells p.fDimensions) := by
  unfold pentaglotref10_Cells pentaglotref10_Cells.s
  rw [ref02_All_eq hM hd]
  rfl

theorem choices_mem_length {ds : List api_Dimension} {c : List api_Feature} (h : c ∈ choices ds) : c.length = ds.length := by
  have := congrArg List.length (choices_names h)
  simpa using this

theorem rec_length (c : List api_Feature) : (rec c).length = c.length := by
  have key : ∀ (c acc : List api_Feature), (c.foldl put acc).length = acc.length + c.length := by
    intro c
    induction c with
    | nil => intro acc; rfl
    | cons x c ih => intro acc; rw [List.foldl_cons, ih, put_length]; simp; omega
  unfold rec
  rw [key]; simp

theorem cells_mem {ds : List api_Dimension} {c : List api_Feature} (h : c ∈ cells ds) : Asc c ∧ c.length = ds.length ∧ c.length ≤ 4 := by
  unfold cells at h
  cases hd : dimsOk ds with
  | false => rw [hd] at h; cases h
  | true =>
    rw [hd] at h
    have hg := dimsOk_good hd
    simp only [cond_true, allF, List.mem_map] at h
    obtain ⟨c', hc', rfl⟩ := h
    refine ⟨rec_asc (distinct_of_names (choices_names hc') hg.names), by rw [rec_length, choices_mem_length hc'], by rw [rec_length, choices_mem_length hc']; exact hg.four⟩

theorem ref10_Number_eq (hM : 1048576 < M) {p : api_Paradigm} (hd : okDims p.fDimensions) (cell : List api_Feature) : pentaglotref10_Number M p cell = some (numR p.fDimensions cell) := by
  unfold pentaglotref10_Number pentaglotref10_Number.s numR
  rw [ref10_Cells_eq hM hd, Option.bind_some]
  have hc := count_le p.fDimensions
  have hl := cells_length p.fDimensions
  refine overI (xs := cells p.fDimensions) (f := fun k i (_ : Unit) => pentaglotref10_Number.l1 M k cell (cells p.fDimensions) i) (g := fun i r _ => some (fstIdx (fun c => decide (c = cell)) r i)) (fun k _ => by
    simp only [pentaglotref10_Number.l1, pentaglotref10_Number.s1, ↓cneg (Int.lt_irrefl _), fstIdx]) (fun k i x r _ hi hx _ _ ih => by
    have ih := ih ()
    have hm : x ∈ cells p.fDimensions := by rw [← hx]; exact getD_mem hi
    obtain ⟨_, _, hx4⟩ := cells_mem hm
    simp (disch := omega) only [pentaglotref10_Number.l1, pentaglotref10_Number.s1, Int.toNat_natCast, ↓cpos, ↓cpos2, hx, ref02_Same_eq hM, Option.bind_some, wsucc, ih, fstIdx]
    cases decide (x = cell) <;> rfl) (k := M) (by omega) ()

end Go.Ai.Par
namespace Go.Ai.Par
open Go Go.Ai

/-! ### The two numbers of a cell are one -/
theorem fstIdx_append {α : Type} (p : α → Bool) : ∀ (xs ys : List α) (i : Nat), fstIdx p (xs ++ ys) i = cond (xs.any p) (fstIdx p xs i) (fstIdx p ys (i + xs.length))
  | [], ys, i => rfl
  | x :: xs, ys, i => by
    simp only [List.cons_append, fstIdx, List.any_cons, fstIdx_append p xs ys (i + 1), List.length_cons]
    cases p x with
    | true => rfl
    | false =>
      simp only [cond_false, Bool.false_or]
      rw [show i + 1 + xs.length = i + (xs.length + 1) by omega]

theorem fstIdx_map {α β : Type} (p : β → Bool) (f : α → β) : ∀ (xs : List α) (i : Nat), fstIdx p (xs.map f) i = fstIdx (fun x => p (f x)) xs i
  | [], _ => rfl
  | x :: xs, i => by simp only [List.map_cons, fstIdx, fstIdx_map p f xs]

theorem fstIdx_congr {α : Type} {p q : α → Bool} : ∀ {xs : List α} (i : Nat), (∀ x ∈ xs, p x = q x) → fstIdx p xs i = fstIdx q xs i
  | [], _, _ => rfl
  | x :: xs, i, h => by simp only [fstIdx, h x (by simp), fstIdx_congr (i + 1) fun y hy => h y (List.mem_cons_of_mem _ hy)]

theorem fstIdx_none {α : Type} {p : α → Bool} : ∀ {xs : List α} (i : Nat), (∀ x ∈ xs, p x = false) → fstIdx p xs i = -1
  | [], _, _ => rfl
  | x :: xs, i, h => by simp only [fstIdx, h x (by simp), cond_false, fstIdx_none (i + 1) fun y hy => h y (List.mem_cons_of_mem _ hy)]

theorem fstIdx_shift {α : Type} (p : α → Bool) (xs : List α) (i : Nat) : fstIdx p xs i = cond (xs.any p) (fstIdx p xs 0 + i) (-1) := by
  rcases fstIdx_cases p xs i with ⟨h1, h2⟩ | ⟨j, h, h1, h2, h3, h4⟩
  · rw [h1, h2]; rfl
  · rcases fstIdx_cases p xs 0 with ⟨g1, g2⟩ | ⟨j', g, g1, g2, g3, g4⟩
    · rw [g1] at h4; cases h4
    · rw [h4, h3, g3]
      have : j = j' := by
        rcases Nat.lt_trichotomy j j' with h' | h' | h'
        · have := g2 j h'; rw [h1] at this; cases this
        · exact h'
        · have := h2 j' h'; rw [g1] at this; cases this
      subst this
      simp only [cond_true]
      omega

theorem fstIdx_flat {n v : List UInt8} {rest : List api_Feature} {L : List (List api_Feature)} : ∀ (vals : List (List UInt8)) (i : Nat),
    fstIdx (fun c => decide (c = ⟨n, v⟩ :: rest)) (vals.flatMap fun v' => L.map (⟨n, v'⟩ :: ·)) i = cond ((vals.any fun x => decide (v = x)) && (L.any fun c => decide (c = rest))) (i + fstIdx (fun x => decide (v = x)) vals 0 * L.length + fstIdx (fun c => decide (c = rest)) L 0) (-1)
  | [], i => rfl
  | v' :: vals, i => by
    simp only [List.flatMap_cons]
    rw [fstIdx_append, fstIdx_map, fstIdx_flat vals]
    have hany : (L.map (⟨n, v'⟩ :: ·)).any (fun c => decide (c = ⟨n, v⟩ :: rest)) = (decide (v = v') && L.any fun c => decide (c = rest)) := by
      rw [List.any_map]
      by_cases h : v = v'
      · subst h; simp only [decide_true, Bool.true_and]; congr 1; funext c; simp
      · simp only [h, decide_false, Bool.false_and]
        rw [List.any_eq_false]
        intro c _
        simp only [Function.comp_apply, List.cons.injEq, api_Feature.mk.injEq, decide_eq_true_eq]
        intro h'
        exact h h'.1.2.symm
    rw [hany]
    simp only [List.any_cons, fstIdx, List.length_map]
    by_cases h : v = v'
    · subst h
      simp only [decide_true, Bool.true_and, Bool.true_or, cond_true]
      cases hL : L.any (fun c => decide (c = rest)) with
      | false =>
        simp
      | true =>
        simp only [cond_true, Bool.true_and]
        have : fstIdx (fun x => decide ((⟨n, v⟩ :: x : List api_Feature) = ⟨n, v⟩ :: rest)) L i = fstIdx (fun c => decide (c = rest)) L i := fstIdx_congr i fun c _ => by simp
        rw [this, fstIdx_shift, hL]
        simp only [cond_true]
        omega
    · simp only [h, decide_false, Bool.false_and, Bool.false_or, cond_false]
      cases hv : vals.any (fun x => decide (v = x)) with
      | false => simp
      | true =>
        cases hL : L.any (fun c => decide (c = rest)) with
        | false => simp
        | true =>
          simp only [Bool.true_and, cond_true]
          have := fstIdx_shift (fun x => decide (v = x)) vals 1
          rw [hv, cond_true] at this
          rw [show (0 : Nat) + 1 = 1 from rfl, this, Int.add_mul]
          simp
          omega

def pick (cell : List api_Feature) (ds : List api_Dimension) : List api_Feature := ds.map fun d => ⟨d.fName, (getF cell d.fName).getD []⟩

def fits (cell : List api_Feature) (ds : List api_Dimension) : Bool := ds.all fun d => (getF cell d.fName).isSome && d.fValues.any fun x => decide ((getF cell d.fName).getD [] = x)

theorem numD_eq {cell : List api_Feature} : ∀ (ds : List api_Dimension) (n : Int), numD cell ds n = cond (fits cell ds) (some (n * (prod ds : Int) + fstIdx (fun c => decide (c = pick cell ds)) (choices ds) 0)) none
  | [], n => by simp [numD, fits, prod, choices, pick, fstIdx]
  | d :: ds, n => by
    have hany : (choices ds).any (fun c => decide (c = pick cell ds)) = true ∨ fits cell ds = false := by
      have key : ∀ ds : List api_Dimension, fits cell ds = true → pick cell ds ∈ choices ds := by
        intro ds
        induction ds with
        | nil => intro _; simp [pick, choices]
        | cons d ds ih =>
          intro h
          simp only [fits, List.all_cons, Bool.and_eq_true] at h
          simp only [pick, List.map_cons, choices, List.mem_flatMap, List.mem_map]
          obtain ⟨x, hx, e⟩ := List.any_eq_true.1 h.1.2
          have e := of_decide_eq_true e
          exact ⟨x, hx, pick cell ds, ih h.2, by rw [e]; rfl⟩
      cases h : fits cell ds with
      | false => exact .inr rfl
      | true => exact .inl (List.any_eq_true.2 ⟨_, key ds h, by simp⟩)
    simp only [numD, fits, List.all_cons]
    cases hg : getF cell d.fName with
    | none => rfl
    | some v =>
      simp only [Option.isSome_some, Option.getD_some, Bool.true_and]
      have hn := fstIdx_nonneg (fun x => decide (v = x)) d.fValues 0
      cases hv : d.fValues.any (fun x => decide (v = x)) with
      | false =>
        rw [hv] at hn
        have : fstIdx (fun x => decide (v = x)) d.fValues 0 < 0 := by have := of_decide_eq_false hn; omega
        rw [cpos this]; rfl
      | true =>
        rw [hv] at hn
        have : ¬ fstIdx (fun x => decide (v = x)) d.fValues 0 < 0 := by have := of_decide_eq_true hn; omega
        rw [cneg this, numD_eq ds]
        simp only [Bool.true_and]
        show cond (fits cell ds) _ _ = cond (fits cell ds) _ _
        rcases hany with hany | hf
        · cases hf : fits cell ds with
          | false => rfl
          | true =>
            have hp : pick cell (d :: ds) = ⟨d.fName, v⟩ :: pick cell ds := by simp [pick, hg]
            simp only [cond_true, hp, choices]
            rw [fstIdx_flat, hv, hany]
            simp only [Bool.true_and, cond_true, choices_length, prod]
            congr 1
            rw [Int.add_mul, Int.mul_assoc]
            simp
            omega
        · rw [hf]; rfl

theorem getF_mem {r : List api_Feature} {n v : List UInt8} (h : getF r n = some v) : (⟨n, v⟩ : api_Feature) ∈ r := by
  induction r with
  | nil => cases h
  | cons f r ih =>
    simp only [getF] at h
    by_cases hn : f.fName = n
    · rw [if_pos hn] at h
      cases h; subst hn
      simp
    · rw [if_neg hn] at h
      exact List.mem_cons_of_mem _ (ih h)

theorem getF_of_mem {r : List api_Feature} (hd : Distinct r) {f : api_Feature} (h : f ∈ r) : getF r f.fName = some f.fValue := by
  induction r with
  | nil => cases h
  | cons e r ih =>
    obtain ⟨h1, h2⟩ := List.pairwise_cons.1 hd
    simp only [getF]
    rcases List.mem_cons.1 h with rfl | h
    · rw [if_pos rfl]
    · rw [if_neg (h1 f h)]
      exact ih h2 h

theorem asc_distinct {r : List api_Feature} (h : Asc r) : Distinct r := h.imp fun h => bl_ne h

theorem asc_sub : ∀ {b a : List api_Feature}, Asc a → Asc b → (∀ x ∈ a, x ∈ b) → a.Sublist b
  | [], a, _, _, h => by
    cases a with
    | nil => exact List.Sublist.slnil
    | cons x a => have := h x (by simp); cases this
  | y :: b, [], _, _, _ => List.nil_sublist _
  | y :: b, x :: a, ha, hb, h => by
    obtain ⟨ha1, ha2⟩ := List.pairwise_cons.1 ha
    obtain ⟨hb1, hb2⟩ := List.pairwise_cons.1 hb
    have later : ∀ z ∈ a, z ∈ b := fun z hz => by
      rcases List.mem_cons.1 (h z (List.mem_cons_of_mem _ hz)) with rfl | hz'
      · exfalso
        have h1 := ha1 z hz
        rcases List.mem_cons.1 (h x (by simp)) with rfl | hx
        · unfold ltB at h1; rw [bl_irrefl] at h1; cases h1
        · have h2 := hb1 x hx
          have := bl_trans h1 h2
          rw [bl_irrefl] at this; cases this
      · exact hz'
    rcases List.mem_cons.1 (h x (by simp)) with rfl | hx
    · exact List.Sublist.cons_cons _ (asc_sub ha2 hb2 later)
    · refine List.Sublist.cons _ (asc_sub ha hb2 fun z hz => ?_)
      rcases List.mem_cons.1 hz with rfl | hz
      · exact hx
      · exact later z hz

theorem asc_eq {a b : List api_Feature} (ha : Asc a) (hb : Asc b) (h : ∀ x ∈ a, x ∈ b) (hl : a.length = b.length) : a = b := (asc_sub ha hb h).eq_of_length hl

theorem pick_of {cell : List api_Feature} (hc : Distinct cell) : ∀ {ds : List api_Dimension} {c : List api_Feature}, c ∈ choices ds → (∀ f ∈ c, f ∈ cell) → pick cell ds = c ∧ fits cell ds = true
  | [], c, h, _ => by simp [choices] at h; subst h; exact ⟨rfl, rfl⟩
  | d :: ds, c, h, hm => by
    simp only [choices, List.mem_flatMap, List.mem_map] at h
    obtain ⟨v, hv, c', hc', rfl⟩ := h
    obtain ⟨h1, h2⟩ := pick_of hc hc' fun f hf => hm f (List.mem_cons_of_mem _ hf)
    have hg : getF cell d.fName = some v := getF_of_mem hc (hm ⟨d.fName, v⟩ (by simp))
    refine ⟨?_, ?_⟩
    · simp only [pick, List.map_cons, hg, Option.getD_some]
      rw [← h1]; rfl
    · simp only [fits, List.all_cons, hg, Option.isSome_some, Option.getD_some, Bool.true_and, Bool.and_eq_true]
      exact ⟨List.any_eq_true.2 ⟨v, hv, by simp⟩, h2⟩

theorem pick_mem {cell : List api_Feature} : ∀ {ds : List api_Dimension}, fits cell ds = true → ∀ f ∈ pick cell ds, f ∈ cell
  | [], _, f, h => by cases h
  | d :: ds, hf, f, h => by
    simp only [fits, List.all_cons, Bool.and_eq_true] at hf
    simp only [pick, List.map_cons, List.mem_cons] at h
    rcases h with rfl | h
    · cases hg : getF cell d.fName with
      | none => rw [hg] at hf; simp at hf
      | some v => exact getF_mem hg
    · exact pick_mem hf.2 f h

theorem pick_names (cell : List api_Feature) (ds : List api_Dimension) : (pick cell ds).map (·.fName) = ds.map (·.fName) := by simp [pick]

theorem numP_numR (ds : List api_Dimension) (cell : List api_Feature) : numP ds cell = numR ds cell := by
  unfold numP numR cells
  cases hd : dimsOk ds with
  | false => simp [fstIdx]
  | true =>
    have hg := dimsOk_good hd
    simp only [Bool.and_true, cond_true, allF]
    rw [fstIdx_map]
    by_cases hall : cell.length = ds.length ∧ isRec cell = true ∧ fits cell ds = true
    · obtain ⟨h1, h2, h3⟩ := hall
      have ha := isRec_iff.1 h2
      rw [cpos h1, numD_eq, h3]
      simp only [cond_true, h2, Int.zero_mul, Int.zero_add]
      refine fstIdx_congr 0 fun c hc => ?_
      rw [Bool.eq_iff_iff]
      simp only [decide_eq_true_eq]
      have hdc := distinct_of_names (choices_names hc) hg.names
      constructor
      · rintro rfl
        have hdp := distinct_of_names (pick_names cell ds) hg.names
        refine asc_eq (rec_asc hdp) ha (fun x hx => pick_mem h3 x (rec_mem.1 hx)) ?_
        rw [rec_length]; simp [pick, h1]
      · intro e
        exact (pick_of (asc_distinct ha) hc fun f hf => by rw [← e]; exact rec_mem.2 hf).1.symm
    · have hnone : fstIdx (fun x => decide (rec x = cell)) (choices ds) 0 = -1 := by
        refine fstIdx_none 0 fun c hc => ?_
        simp only [decide_eq_false_iff_not]
        intro e
        have hdc := distinct_of_names (choices_names hc) hg.names
        apply hall
        have ha : Asc cell := by rw [← e]; exact rec_asc hdc
        refine ⟨by rw [← e, rec_length, choices_mem_length hc], isRec_iff.2 ha, (pick_of (asc_distinct ha) hc fun f hf => by rw [← e]; exact rec_mem.2 hf).2⟩
      rw [hnone]
      by_cases h1 : cell.length = ds.length
      · rw [cpos h1, numD_eq]
        cases hf : fits cell ds with
        | false => rfl
        | true =>
          simp only [cond_true]
          cases hr : isRec cell with
          | false => rfl
          | true => exact absurd ⟨h1, hr, hf⟩ hall
      · rw [cneg h1]

/-- The number of a cell is where it stands. -/
theorem num_cells {ds : List api_Dimension} {cell : List api_Feature} (h : 0 ≤ numR ds cell) : Asc cell ∧ cell.length = ds.length ∧ cell.length ≤ 4 ∧ cell ∈ cells ds := by
  unfold numR at h
  rcases fstIdx_cases (fun c => decide (c = cell)) (cells ds) 0 with ⟨h1, h2⟩ | ⟨j, hj, h1, h2, h3, h4⟩
  · omega
  · have e := of_decide_eq_true h1
    have hm : cell ∈ cells ds := by rw [← e]; exact List.getElem_mem _
    obtain ⟨a, b, c⟩ := cells_mem hm
    exact ⟨a, b, c, hm⟩

end Go.Ai.Par
set_option linter.unusedVariables false
set_option linter.unusedSectionVars false
noncomputable section
namespace Go.Ai.Par
open Go Go.Ai Go.Proofs
noncomputable def sigs20 (M : Nat) : List (Nat × Sig E) := [(18, paradigm_Number.sig M), (38, feature_Valid.sig M), (39, feature_Unify.sig M)]
noncomputable def rs20 (M : Nat) : List (Nat × Sig E) := []
noncomputable def its20 (M : Nat) : List (Nat × It E) := []
theorem sigs_ok20 (M : Nat) : SigsOk Try.prog (sigs20 M) := SigsOk.cons (paradigm_Number.says M) (SigsOk.cons (feature_Valid.says M) (SigsOk.cons (feature_Unify.says M) (SigsOk.nil)))
theorem rs_ok20 (M : Nat) : SigsOk Try.prog (rs20 M) := SigsOk.nil
theorem its_ok20 (M : Nat) : ItsOk Try.prog (its20 M) := ItsOk.nil
noncomputable def C20 (M : Nat) : Ctx E := { ti := fun t => tisE.lookup t, sig := fun f => (sigs20 M).lookup f, it := fun f => (its20 M).lookup f, nt := 22 }
theorem SigOk_C20 (M : Nat) : SigOk Try.prog (C20 M) := sigs_ok20 M
theorem RSigOk_C20 (M : Nat) : SigOk Try.prog ({ ti := fun _ => none, sig := fun f => (rs20 M).lookup f } : Ctx E) := rs_ok20 M
theorem ItOk_C20 (M : Nat) : ItOk Try.prog (C20 M) := (its_ok20 M).ok
namespace paradigm_Merge
noncomputable def plans : List (Option (Plan Nm)) := [none, none, none, none, none]
noncomputable abbrev body : Code := bodyOf Try.f20
def ps : List (Ty Nm) := [(.st .api_Paradigm), (.sl (.st .api_Feature)), (.sl (.st .api_Feature))]
def rs : List (Ty Nm) := [(.sl (.st .api_Feature)), .bool]
def ex : List (Option Nat) := [some 71, none]
noncomputable def inl : List (Nat × Nat × Nat × Inl Nm) := []
theorem inl_ok : InlsOk Try.prog inl := InlsOk.nil
noncomputable def X (M : Nat) : Ext E ((List api_Feature) × Bool) := extOf (C20 M) (inlOf inl) (fun f => (rs20 M).lookup f) (fun _ _ _ => none) noX M 1
abbrev Rt := (List api_Feature) × Bool
noncomputable def H (M : Nat) : Hd E Rt := hd0 (X M)
theorem Hok (M : Nat) : (H M).ok (C20 M) M := hd0_ok _
abbrev Zt := List Dir → St E → Option Rt
abbrev Ut := St E → Option Rt
noncomputable def s (M : Nat) (pa0_0 : api_Paradigm) (cella1_0 : (List api_Feature)) (inherenta2_0 : (List api_Feature)) : Option Rt :=
  Option.bind (paradigm_Number M pa0_0 cella1_0) fun r10_7 =>
  cond (decide (r10_7 < 0))
   (some ([], false))
   (Option.bind (feature_Valid M inherenta2_0) fun r14_8 =>
    cond (!r14_8)
     (some ([], false))
     (Option.bind (feature_Unify M cella1_0 inherenta2_0) fun r19_9 =>
      some (r19_9.1, r19_9.2)))
end paradigm_Merge
noncomputable def paradigm_Merge (M : Nat) (pa0_0 : api_Paradigm) (cella1_0 : (List api_Feature)) (inherenta2_0 : (List api_Feature)) : Option ((List api_Feature) × Bool) :=
  paradigm_Merge.s M pa0_0 cella1_0 inherenta2_0
namespace paradigm_Merge
noncomputable def K (M : Nat) : Cont E ((List api_Feature) × Bool) := kRet (C20 M) Try.f20.results.toList rs ex
set_option maxRecDepth 100000
theorem g (M : Nat) (Z : Zt) (pa0_0 : api_Paradigm) (cella1_0 : (List api_Feature)) (inherenta2_0 : (List api_Feature)) : runZ (C20 M) (extZ (C20 M) (H M) 0) Z body plans (start (argHs ps (pa0_0, cella1_0, inherenta2_0)) Try.f20.ntmps 22) (K M) = s M pa0_0 cella1_0 inherenta2_0 := by kernel_rfl
theorem run (M : Nat) (pa0_0 : api_Paradigm) (cella1_0 : (List api_Feature)) (inherenta2_0 : (List api_Feature)) : runF (rs := rs) (C20 M) (X M) M body Try.f20.ntmps 22 Try.f20.results.toList plans ps ex (pa0_0, cella1_0, inherenta2_0) = paradigm_Merge M pa0_0 cella1_0 inherenta2_0 := by
  refine Eq.trans (b := runC (C20 M) (X M) M body plans (start (argHs ps (pa0_0, cella1_0, inherenta2_0)) Try.f20.ntmps 22) (K M)) (by kernel_rfl) ?_
  refine (zrun (Hok M) 0 body plans _ (K M) (fun _ => none) fun _ => rfl).symm.trans ?_
  refine (g M _ pa0_0 cella1_0 inherenta2_0).trans ?_
  rfl
noncomputable def sig (M : Nat) : Sig E := { ps := ps, rs := rs, ex := ex, fn := fun x => paradigm_Merge M x.1 x.2.1 x.2.2 }
theorem says (M : Nat) : callable Try.prog 20 = true ∧ ∀ x y, (sig M).fn x = some y → Says Try.prog 20 (sig M) x y := by
  refine ⟨by kernel_rfl, fun x y h => ?_⟩
  refine says_of_run (S := sig M) (C := C20 M) (X := X M) (M := M) (q := 22) (plans := plans) (COk_Try) (SigOk_C20 M) (ItOk_C20 M) (by kernel_rfl) (callOk_ext COk_Try (SigOk_C20 M) (ItOk_C20 M) (by kernel_rfl) inl_ok.ok (RSigOk_C20 M) (fun _ => callOk_none) M 1) (Try.func20) (body := body) (by kernel_rfl) (by kernel_rfl) ?_
  obtain ⟨pa0_0, cella1_0, inherenta2_0⟩ := x
  exact (run M pa0_0 cella1_0 inherenta2_0).trans h
end paradigm_Merge
end Go.Ai.Par
end
set_option linter.unusedVariables false
set_option linter.unusedSectionVars false
noncomputable section
namespace Go.Ai.Par
open Go Go.Ai Go.Proofs
noncomputable def sigs21 (M : Nat) : List (Nat × Sig E) := [(19, pentaglotref10_Number.sig M), (40, pentaglotref02_Valid.sig M), (41, pentaglotref02_Unify.sig M)]
noncomputable def rs21 (M : Nat) : List (Nat × Sig E) := []
noncomputable def its21 (M : Nat) : List (Nat × It E) := []
theorem sigs_ok21 (M : Nat) : SigsOk Try.prog (sigs21 M) := SigsOk.cons (pentaglotref10_Number.says M) (SigsOk.cons (pentaglotref02_Valid.says M) (SigsOk.cons (pentaglotref02_Unify.says M) (SigsOk.nil)))
theorem rs_ok21 (M : Nat) : SigsOk Try.prog (rs21 M) := SigsOk.nil
theorem its_ok21 (M : Nat) : ItsOk Try.prog (its21 M) := ItsOk.nil
noncomputable def C21 (M : Nat) : Ctx E := { ti := fun t => tisE.lookup t, sig := fun f => (sigs21 M).lookup f, it := fun f => (its21 M).lookup f, nt := 22 }
theorem SigOk_C21 (M : Nat) : SigOk Try.prog (C21 M) := sigs_ok21 M
theorem RSigOk_C21 (M : Nat) : SigOk Try.prog ({ ti := fun _ => none, sig := fun f => (rs21 M).lookup f } : Ctx E) := rs_ok21 M
theorem ItOk_C21 (M : Nat) : ItOk Try.prog (C21 M) := (its_ok21 M).ok
namespace pentaglotref10_Merge
noncomputable def plans : List (Option (Plan Nm)) := [none, none, none, none, none]
noncomputable abbrev body : Code := bodyOf Try.f21
def ps : List (Ty Nm) := [(.st .api_Paradigm), (.sl (.st .api_Feature)), (.sl (.st .api_Feature))]
def rs : List (Ty Nm) := [(.sl (.st .api_Feature)), .bool]
def ex : List (Option Nat) := [some 71, none]
noncomputable def inl : List (Nat × Nat × Nat × Inl Nm) := []
theorem inl_ok : InlsOk Try.prog inl := InlsOk.nil
noncomputable def X (M : Nat) : Ext E ((List api_Feature) × Bool) := extOf (C21 M) (inlOf inl) (fun f => (rs21 M).lookup f) (fun _ _ _ => none) noX M 1
abbrev Rt := (List api_Feature) × Bool
noncomputable def H (M : Nat) : Hd E Rt := hd0 (X M)
theorem Hok (M : Nat) : (H M).ok (C21 M) M := hd0_ok _
abbrev Zt := List Dir → St E → Option Rt
abbrev Ut := St E → Option Rt
noncomputable def s (M : Nat) (pa0_0 : api_Paradigm) (cella1_0 : (List api_Feature)) (inherenta2_0 : (List api_Feature)) : Option Rt :=
  Option.bind (pentaglotref10_Number M pa0_0 cella1_0) fun r10_7 =>
  cond (decide (r10_7 < 0))
   (some ([], false))
   (Option.bind (pentaglotref02_Valid M inherenta2_0) fun r14_8 =>
    cond (!r14_8)
     (some ([], false))
     (Option.bind (pentaglotref02_Unify M cella1_0 inherenta2_0) fun r19_9 =>
      some (r19_9.1, r19_9.2)))
end pentaglotref10_Merge
noncomputable def pentaglotref10_Merge (M : Nat) (pa0_0 : api_Paradigm) (cella1_0 : (List api_Feature)) (inherenta2_0 : (List api_Feature)) : Option ((List api_Feature) × Bool) :=
  pentaglotref10_Merge.s M pa0_0 cella1_0 inherenta2_0
namespace pentaglotref10_Merge
noncomputable def K (M : Nat) : Cont E ((List api_Feature) × Bool) := kRet (C21 M) Try.f21.results.toList rs ex
set_option maxRecDepth 100000
theorem g (M : Nat) (Z : Zt) (pa0_0 : api_Paradigm) (cella1_0 : (List api_Feature)) (inherenta2_0 : (List api_Feature)) : runZ (C21 M) (extZ (C21 M) (H M) 0) Z body plans (start (argHs ps (pa0_0, cella1_0, inherenta2_0)) Try.f21.ntmps 22) (K M) = s M pa0_0 cella1_0 inherenta2_0 := by kernel_rfl
theorem run (M : Nat) (pa0_0 : api_Paradigm) (cella1_0 : (List api_Feature)) (inherenta2_0 : (List api_Feature)) : runF (rs := rs) (C21 M) (X M) M body Try.f21.ntmps 22 Try.f21.results.toList plans ps ex (pa0_0, cella1_0, inherenta2_0) = pentaglotref10_Merge M pa0_0 cella1_0 inherenta2_0 := by
  refine Eq.trans (b := runC (C21 M) (X M) M body plans (start (argHs ps (pa0_0, cella1_0, inherenta2_0)) Try.f21.ntmps 22) (K M)) (by kernel_rfl) ?_
  refine (zrun (Hok M) 0 body plans _ (K M) (fun _ => none) fun _ => rfl).symm.trans ?_
  refine (g M _ pa0_0 cella1_0 inherenta2_0).trans ?_
  rfl
noncomputable def sig (M : Nat) : Sig E := { ps := ps, rs := rs, ex := ex, fn := fun x => pentaglotref10_Merge M x.1 x.2.1 x.2.2 }
theorem says (M : Nat) : callable Try.prog 21 = true ∧ ∀ x y, (sig M).fn x = some y → Says Try.prog 21 (sig M) x y := by
  refine ⟨by kernel_rfl, fun x y h => ?_⟩
  refine says_of_run (S := sig M) (C := C21 M) (X := X M) (M := M) (q := 22) (plans := plans) (COk_Try) (SigOk_C21 M) (ItOk_C21 M) (by kernel_rfl) (callOk_ext COk_Try (SigOk_C21 M) (ItOk_C21 M) (by kernel_rfl) inl_ok.ok (RSigOk_C21 M) (fun _ => callOk_none) M 1) (Try.func21) (body := body) (by kernel_rfl) (by kernel_rfl) ?_
  obtain ⟨pa0_0, cella1_0, inherenta2_0⟩ := x
  exact (run M pa0_0 cella1_0 inherenta2_0).trans h
end pentaglotref10_Merge
end Go.Ai.Par
end
set_option linter.unusedVariables false
set_option linter.unusedSectionVars false
noncomputable section
namespace Go.Ai.Par
open Go Go.Ai Go.Proofs
noncomputable def sigs46 (M : Nat) : List (Nat × Sig E) := []
noncomputable def rs46 (M : Nat) : List (Nat × Sig E) := []
noncomputable def its46 (M : Nat) : List (Nat × It E) := []
theorem sigs_ok46 (M : Nat) : SigsOk Try.prog (sigs46 M) := SigsOk.nil
theorem rs_ok46 (M : Nat) : SigsOk Try.prog (rs46 M) := SigsOk.nil
theorem its_ok46 (M : Nat) : ItsOk Try.prog (its46 M) := ItsOk.nil
noncomputable def C46 (M : Nat) : Ctx E := { ti := fun t => tisE.lookup t, sig := fun f => (sigs46 M).lookup f, it := fun f => (its46 M).lookup f, nt := 10 }
theorem SigOk_C46 (M : Nat) : SigOk Try.prog (C46 M) := sigs_ok46 M
theorem RSigOk_C46 (M : Nat) : SigOk Try.prog ({ ti := fun _ => none, sig := fun f => (rs46 M).lookup f } : Ctx E) := rs_ok46 M
theorem ItOk_C46 (M : Nat) : ItOk Try.prog (C46 M) := (its_ok46 M).ok
namespace unicode_utf8_RuneCountInString
noncomputable def plans : List (Option (Plan Nm)) := [none, none, some { tmps := [(2, .asis), (4, .asis)], boxes := [(4, [])] }, none, none, none, none]
noncomputable abbrev body : Code := bodyOf Try.f46
def ps : List (Ty Nm) := [.str]
def rs : List (Ty Nm) := [(.int .i64)]
def ex : List (Option Nat) := [none]
noncomputable def inl : List (Nat × Nat × Nat × Inl Nm) := []
theorem inl_ok : InlsOk Try.prog inl := InlsOk.nil
noncomputable def X (M : Nat) : Ext E Int := extOf (C46 M) (inlOf inl) (fun f => (rs46 M).lookup f) (fun _ _ _ => none) noX M 1
abbrev Rt := Int
noncomputable def H (M : Nat) : Hd E Rt := hd0 (X M)
theorem Hok (M : Nat) : (H M).ok (C46 M) M := hd0_ok _
abbrev Qt1 : List Dir := [.r, .l, .r, .k]
abbrev Ht1 := (List UInt8) → Int → Nat → Option Rt
abbrev Zt := List Dir → St E → Option Rt
abbrev Ut := St E → Option Rt
noncomputable def s1 (M : Nat) (h1 : Ht1) (sa0_0 : (List UInt8)) (n2_1 : Int) (p4_1 : Nat) : Option Rt :=
  cond (decide (p4_1 < sa0_0.length))
   (h1 sa0_0 (IntKind.i64.wrap (n2_1 + 1)) (p4_1 + (dec sa0_0 p4_1).2))
   (some n2_1)
noncomputable def l1 (M : Nat) : Nat → Ht1
  | 0, _, _, _ => none
  | k + 1, sa0_0, n2_1, p4_1 => s1 M (l1 M k) sa0_0 n2_1 p4_1
noncomputable def s (M : Nat) (h1 : Ht1) (sa0_0 : (List UInt8)) : Option Rt :=
  h1 sa0_0 0 0
end unicode_utf8_RuneCountInString
noncomputable def unicode_utf8_RuneCountInString (M : Nat) (sa0_0 : (List UInt8)) : Option Int :=
  unicode_utf8_RuneCountInString.s M (unicode_utf8_RuneCountInString.l1 M M) sa0_0
namespace unicode_utf8_RuneCountInString
noncomputable def S1 (sa0_0 : (List UInt8)) (n2_1 : Int) (p4_1 : Nat) : St E :=
  mkSt 10 10 [(2, .one (.tv (.int .i64 n2_1))), (4, .one (.ptr 4 0))] [(4, .iter sa0_0 p4_1)] 0 [] [] false
noncomputable def K (M : Nat) : Cont E Int := kRet (C46 M) Try.f46.results.toList rs ex
noncomputable abbrev zA (M : Nat) (ZL : List Dir → Option (Ut)) (q : List Dir) : Ut := zAt (C46 M) (H M) M 0 ZL body plans (K M) q
noncomputable abbrev lA (M : Nat) (ZL : List Dir → Option (Ut)) (q : List Dir) (k : Nat) : Ut := lpAt (C46 M) (H M) M 0 ZL body plans (K M) q k
noncomputable abbrev gA (M : Nat) (Z : Zt) (q : List Dir) : Ut := seg (C46 M) (H M) 0 Z body plans (K M) q
set_option maxRecDepth 100000
theorem g1 (M : Nat) (Z : Zt) (sa0_0 : (List UInt8)) (n2_1 : Int) (p4_1 : Nat) : gA M Z Qt1 (S1 sa0_0 n2_1 p4_1) = s1 M
    (fun sa0_0 n2_1 p4_1 => Z Qt1 (S1 sa0_0 n2_1 p4_1)) sa0_0 n2_1 p4_1 := by kernel_rfl
theorem g (M : Nat) (Z : Zt) (sa0_0 : (List UInt8)) : runZ (C46 M) (extZ (C46 M) (H M) 0) Z body plans (start (argHs ps sa0_0) Try.f46.ntmps 10) (K M) = s M
    (fun sa0_0 n2_1 p4_1 => Z Qt1 (S1 sa0_0 n2_1 p4_1)) sa0_0 := by kernel_rfl
theorem el1 (M : Nat) (k : Nat) (sa0_0 : (List UInt8)) (n2_1 : Int) (p4_1 : Nat) : lA M (zlq Qt1 []) Qt1 k (S1 sa0_0 n2_1 p4_1) = l1 M k sa0_0 n2_1 p4_1 := by
  induction k generalizing sa0_0 n2_1 p4_1 with
  | zero => kernel_rfl
  | succ k ih =>
    refine Eq.trans (b := lA M (zlq Qt1 [lA M (zlq Qt1 []) Qt1 k]) Qt1 (k + 1) (S1 sa0_0 n2_1 p4_1)) (by kernel_rfl) ?_
    refine (seg_loop (Hok M) 0 Qt1 body plans (K M) _ (S1 sa0_0 n2_1 p4_1) (around_zlq _ _ (by kernel_rfl)) (by kernel_rfl) (by kernel_rfl)).trans ?_
    refine (g1 M _ sa0_0 n2_1 p4_1).trans ?_
    have x0 := (funext fun sa0_0 => funext fun n2_1 => funext fun p4_1 => Eq.trans (b := lA M (zlq Qt1 []) Qt1 k (S1 sa0_0 n2_1 p4_1)) (by kernel_rfl) (ih sa0_0 n2_1 p4_1) : (fun sa0_0 n2_1 p4_1 => zA M (zlq Qt1 [lA M (zlq Qt1 []) Qt1 k]) Qt1 (S1 sa0_0 n2_1 p4_1)) = l1 M k)
    rw [x0]; rfl
theorem e1 (M : Nat) (sa0_0 : (List UInt8)) (n2_1 : Int) (p4_1 : Nat) : zA M (zlq Qt1 []) Qt1 (S1 sa0_0 n2_1 p4_1) = l1 M M sa0_0 n2_1 p4_1 :=
  Eq.trans (b := lA M (zlq Qt1 []) Qt1 M (S1 sa0_0 n2_1 p4_1)) (by kernel_rfl) (el1 M M sa0_0 n2_1 p4_1)
theorem run (M : Nat) (sa0_0 : (List UInt8)) : runF (rs := rs) (C46 M) (X M) M body Try.f46.ntmps 10 Try.f46.results.toList plans ps ex sa0_0 = unicode_utf8_RuneCountInString M sa0_0 := by
  refine Eq.trans (b := runC (C46 M) (X M) M body plans (start (argHs ps sa0_0) Try.f46.ntmps 10) (K M)) (by kernel_rfl) ?_
  refine (zrun (Hok M) 0 body plans _ (K M) (fun _ => none) fun _ => rfl).symm.trans ?_
  refine (g M _ sa0_0).trans ?_
  have x0 := (funext fun sa0_0 => funext fun n2_1 => funext fun p4_1 => Eq.trans (b := zA M (zlq Qt1 []) Qt1 (S1 sa0_0 n2_1 p4_1)) (by kernel_rfl) (e1 M sa0_0 n2_1 p4_1) : (fun sa0_0 n2_1 p4_1 => zA M (fun _ => none) Qt1 (S1 sa0_0 n2_1 p4_1)) = l1 M M)
  rw [x0]; rfl
noncomputable def sig (M : Nat) : Sig E := { ps := ps, rs := rs, ex := ex, fn := fun x => unicode_utf8_RuneCountInString M x }
theorem says (M : Nat) : callable Try.prog 46 = true ∧ ∀ x y, (sig M).fn x = some y → Says Try.prog 46 (sig M) x y := by
  refine ⟨by kernel_rfl, fun x y h => ?_⟩
  refine says_of_run (S := sig M) (C := C46 M) (X := X M) (M := M) (q := 10) (plans := plans) (COk_Try) (SigOk_C46 M) (ItOk_C46 M) (by kernel_rfl) (callOk_ext COk_Try (SigOk_C46 M) (ItOk_C46 M) (by kernel_rfl) inl_ok.ok (RSigOk_C46 M) (fun _ => callOk_none) M 1) (Try.func46) (body := body) (by kernel_rfl) (by kernel_rfl) ?_
  exact (run M x).trans h
end unicode_utf8_RuneCountInString
end Go.Ai.Par
end
set_option linter.unusedVariables false
set_option linter.unusedSectionVars false
noncomputable section
namespace Go.Ai.Par
open Go Go.Ai Go.Proofs
noncomputable def sigs25 (M : Nat) : List (Nat × Sig E) := [(20, paradigm_Merge.sig M), (23, paradigm_Chosen.sig M), (46, unicode_utf8_RuneCountInString.sig M)]
noncomputable def rs25 (M : Nat) : List (Nat × Sig E) := []
noncomputable def its25 (M : Nat) : List (Nat × It E) := []
theorem sigs_ok25 (M : Nat) : SigsOk Try.prog (sigs25 M) := SigsOk.cons (paradigm_Merge.says M) (SigsOk.cons (paradigm_Chosen.says M) (SigsOk.cons (unicode_utf8_RuneCountInString.says M) (SigsOk.nil)))
theorem rs_ok25 (M : Nat) : SigsOk Try.prog (rs25 M) := SigsOk.nil
theorem its_ok25 (M : Nat) : ItsOk Try.prog (its25 M) := ItsOk.nil
noncomputable def C25 (M : Nat) : Ctx E := { ti := fun t => tisE.lookup t, sig := fun f => (sigs25 M).lookup f, it := fun f => (its25 M).lookup f, nt := 58 }
theorem SigOk_C25 (M : Nat) : SigOk Try.prog (C25 M) := sigs_ok25 M
theorem RSigOk_C25 (M : Nat) : SigOk Try.prog ({ ti := fun _ => none, sig := fun f => (rs25 M).lookup f } : Ctx E) := rs_ok25 M
theorem ItOk_C25 (M : Nat) : ItOk Try.prog (C25 M) := (its_ok25 M).ok
namespace paradigm_Underlying
noncomputable def plans : List (Option (Plan Nm)) := [none, none, none, none, none, none, none, some { tmps := [(4, .asis), (10, .own (100010, 0, 71) (.st .api_Feature)), (12, .asis), (28, .asis), (29, .asis)], boxes := [(4, [.asis, .asis, .asis])] }, none, none, none, none, none, none, none, some { tmps := [(12, .asis)], boxes := [] }, none, none, none, none]
noncomputable abbrev body : Code := bodyOf Try.f25
def ps : List (Ty Nm) := [(.st .api_Paradigm), .str, (.sl (.st .api_Feature)), (.sl (.st .api_Feature))]
def rs : List (Ty Nm) := [.str, (.int .i64)]
def ex : List (Option Nat) := [none, none]
noncomputable def inl : List (Nat × Nat × Nat × Inl Nm) := []
theorem inl_ok : InlsOk Try.prog inl := InlsOk.nil
noncomputable def X (M : Nat) : Ext E ((List UInt8) × Int) := extOf (C25 M) (inlOf inl) (fun f => (rs25 M).lookup f) (fun _ _ _ => none) noX M 1
abbrev Rt := (List UInt8) × Int
noncomputable def H (M : Nat) : Hd E Rt := hd0 (X M)
theorem Hok (M : Nat) : (H M).ok (C25 M) M := hd0_ok _
abbrev Qt2 : List Dir := [.r, .r, .r, .r]
abbrev Ht2 := (List UInt8) → Option Rt
abbrev Qt1 : List Dir := [.r, .r, .r, .r, .l, .r, .k]
abbrev Ht1 := api_Paradigm → ((List api_Feature) × Bool) → (List UInt8) → Int → Option Rt
abbrev Zt := List Dir → St E → Option Rt
abbrev Ut := St E → Option Rt
noncomputable def s2 (M : Nat) (form12_2 : (List UInt8)) : Option Rt :=
  Option.bind (unicode_utf8_RuneCountInString M form12_2) fun r55_10 =>
  cond (decide (40 < r55_10))
   (some ([], 2))
   (some (form12_2, 0))
noncomputable def j2 (M : Nat) (form12_2 : (List UInt8)) : Option Rt :=
  s2 M form12_2
noncomputable def s1 (M : Nat) (h1 : Ht1) (h2 : Ht2) (pa0_0 : api_Paradigm) (r20_1 : (List api_Feature) × Bool) (form12_1 : (List UInt8)) (x29_1 : Int) : Option Rt :=
  cond (decide (x29_1 < (pa0_0.fSlots.length : Int)))
   (Option.bind (paradigm_Chosen M pa0_0 x29_1 r20_1.1) fun r35_9 =>
    cond (decide (0 ≤ r35_9))
     (cond (decide (0 ≤ x29_1) && decide (x29_1 < (pa0_0.fSlots.length : Int)))
       (cond (decide (0 ≤ r35_9) && decide (r35_9 < ((pa0_0.fSlots.getD x29_1.toNat default).length : Int)))
         (cond (decide ((((pa0_0.fSlots.getD x29_1.toNat default).getD r35_9.toNat default).fPrefix).length + form12_1.length ≤ 1125899906842624))
           (cond (decide (((((pa0_0.fSlots.getD x29_1.toNat default).getD r35_9.toNat default).fPrefix) ++ form12_1).length + (((pa0_0.fSlots.getD x29_1.toNat default).getD r35_9.toNat default).fSuffix).length ≤ 1125899906842624))
             (h1 pa0_0 r20_1 (((((pa0_0.fSlots.getD x29_1.toNat default).getD r35_9.toNat default).fPrefix) ++ form12_1) ++ (((pa0_0.fSlots.getD x29_1.toNat default).getD r35_9.toNat default).fSuffix)) (IntKind.i64.wrap (x29_1 + 1)))
             none)
           none)
         none)
       none)
     (h1 pa0_0 r20_1 form12_1 (IntKind.i64.wrap (x29_1 + 1))))
   (h2 form12_1)
noncomputable def l1 (M : Nat) : Nat → Ht1
  | 0, _, _, _, _ => none
  | k + 1, pa0_0, r20_1, form12_1, x29_1 => s1 M (l1 M k) (j2 M) pa0_0 r20_1 form12_1 x29_1
noncomputable def s (M : Nat) (h1 : Ht1) (pa0_0 : api_Paradigm) (stema1_0 : (List UInt8)) (inherenta2_0 : (List api_Feature)) (cella3_0 : (List api_Feature)) : Option Rt :=
  Option.bind (paradigm_Merge M pa0_0 cella3_0 inherenta2_0) fun r20_1 =>
  cond (!r20_1.2)
   (some ([], 1))
   (h1 pa0_0 r20_1 stema1_0 0)
end paradigm_Underlying
noncomputable def paradigm_Underlying (M : Nat) (pa0_0 : api_Paradigm) (stema1_0 : (List UInt8)) (inherenta2_0 : (List api_Feature)) (cella3_0 : (List api_Feature)) : Option ((List UInt8) × Int) :=
  paradigm_Underlying.s M (paradigm_Underlying.l1 M M) pa0_0 stema1_0 inherenta2_0 cella3_0
namespace paradigm_Underlying
noncomputable def S2 (form12_2 : (List UInt8)) : St E :=
  mkSt 58 58 [(12, .one (.tv (.str form12_2)))] [] 0 [] [] false
noncomputable def S1 (pa0_0 : api_Paradigm) (r20_1 : (List api_Feature) × Bool) (form12_1 : (List UInt8)) (x29_1 : Int) : St E :=
  mkSt 58 58 [(4, .one (.ptr 4 0)), (10, .one (.tok (100010, 0, 71) (.st .api_Feature) r20_1.1)), (12, .one (.tv (.str form12_1))), (28, .one (.tv (.int .i64 (pa0_0.fSlots.length : Int)))), (29, .one (.tv (.int .i64 x29_1)))] [(4, .cells [.tv (.str pa0_0.fName), .tv (.sl (.st .api_Dimension) pa0_0.fDimensions), .tv (.sl (.sl (.st .api_Affix)) pa0_0.fSlots)])] 0 [] [] false
noncomputable def K (M : Nat) : Cont E ((List UInt8) × Int) := kRet (C25 M) Try.f25.results.toList rs ex
noncomputable abbrev zA (M : Nat) (ZL : List Dir → Option (Ut)) (q : List Dir) : Ut := zAt (C25 M) (H M) M 0 ZL body plans (K M) q
noncomputable abbrev lA (M : Nat) (ZL : List Dir → Option (Ut)) (q : List Dir) (k : Nat) : Ut := lpAt (C25 M) (H M) M 0 ZL body plans (K M) q k
noncomputable abbrev gA (M : Nat) (Z : Zt) (q : List Dir) : Ut := seg (C25 M) (H M) 0 Z body plans (K M) q
set_option maxRecDepth 100000
theorem g2 (M : Nat) (Z : Zt) (form12_2 : (List UInt8)) : gA M Z Qt2 (S2 form12_2) = s2 M form12_2 := by kernel_rfl
theorem g1 (M : Nat) (Z : Zt) (pa0_0 : api_Paradigm) (r20_1 : (List api_Feature) × Bool) (form12_1 : (List UInt8)) (x29_1 : Int) : gA M Z Qt1 (S1 pa0_0 r20_1 form12_1 x29_1) = s1 M
    (fun pa0_0 r20_1 form12_1 x29_1 => Z Qt1 (S1 pa0_0 r20_1 form12_1 x29_1))
    (fun form12_2 => Z Qt2 (S2 form12_2)) pa0_0 r20_1 form12_1 x29_1 := by kernel_rfl
theorem g (M : Nat) (Z : Zt) (pa0_0 : api_Paradigm) (stema1_0 : (List UInt8)) (inherenta2_0 : (List api_Feature)) (cella3_0 : (List api_Feature)) : runZ (C25 M) (extZ (C25 M) (H M) 0) Z body plans (start (argHs ps (pa0_0, stema1_0, inherenta2_0, cella3_0)) Try.f25.ntmps 58) (K M) = s M
    (fun pa0_0 r20_1 form12_1 x29_1 => Z Qt1 (S1 pa0_0 r20_1 form12_1 x29_1)) pa0_0 stema1_0 inherenta2_0 cella3_0 := by kernel_rfl
theorem e2 (M : Nat) (form12_2 : (List UInt8)) : zA M (zlq Qt2 []) Qt2 (S2 form12_2) = j2 M form12_2 := by
  refine (seg_join (Hok M) 0 Qt2 body plans (K M) _ (S2 form12_2) (around_zlq _ _ (by kernel_rfl)) (by kernel_rfl)).trans ?_
  refine (g2 M _ form12_2).trans ?_
  rfl
theorem el1 (M : Nat) (k : Nat) (pa0_0 : api_Paradigm) (r20_1 : (List api_Feature) × Bool) (form12_1 : (List UInt8)) (x29_1 : Int) : lA M (zlq Qt1 []) Qt1 k (S1 pa0_0 r20_1 form12_1 x29_1) = l1 M k pa0_0 r20_1 form12_1 x29_1 := by
  induction k generalizing pa0_0 r20_1 form12_1 x29_1 with
  | zero => kernel_rfl
  | succ k ih =>
    refine Eq.trans (b := lA M (zlq Qt1 [lA M (zlq Qt1 []) Qt1 k]) Qt1 (k + 1) (S1 pa0_0 r20_1 form12_1 x29_1)) (by kernel_rfl) ?_
    refine (seg_loop (Hok M) 0 Qt1 body plans (K M) _ (S1 pa0_0 r20_1 form12_1 x29_1) (around_zlq _ _ (by kernel_rfl)) (by kernel_rfl) (by kernel_rfl)).trans ?_
    refine (g1 M _ pa0_0 r20_1 form12_1 x29_1).trans ?_
    have x0 := (funext fun pa0_0 => funext fun r20_1 => funext fun form12_1 => funext fun x29_1 => Eq.trans (b := lA M (zlq Qt1 []) Qt1 k (S1 pa0_0 r20_1 form12_1 x29_1)) (by kernel_rfl) (ih pa0_0 r20_1 form12_1 x29_1) : (fun pa0_0 r20_1 form12_1 x29_1 => zA M (zlq Qt1 [lA M (zlq Qt1 []) Qt1 k]) Qt1 (S1 pa0_0 r20_1 form12_1 x29_1)) = l1 M k)
    have x1 := (funext fun form12_2 => Eq.trans (b := zA M (zlq Qt2 []) Qt2 (S2 form12_2)) (by kernel_rfl) (e2 M form12_2) : (fun form12_2 => zA M (zlq Qt1 [lA M (zlq Qt1 []) Qt1 k]) Qt2 (S2 form12_2)) = j2 M)
    rw [x0, x1]; rfl
theorem e1 (M : Nat) (pa0_0 : api_Paradigm) (r20_1 : (List api_Feature) × Bool) (form12_1 : (List UInt8)) (x29_1 : Int) : zA M (zlq Qt1 []) Qt1 (S1 pa0_0 r20_1 form12_1 x29_1) = l1 M M pa0_0 r20_1 form12_1 x29_1 :=
  Eq.trans (b := lA M (zlq Qt1 []) Qt1 M (S1 pa0_0 r20_1 form12_1 x29_1)) (by kernel_rfl) (el1 M M pa0_0 r20_1 form12_1 x29_1)
theorem run (M : Nat) (pa0_0 : api_Paradigm) (stema1_0 : (List UInt8)) (inherenta2_0 : (List api_Feature)) (cella3_0 : (List api_Feature)) : runF (rs := rs) (C25 M) (X M) M body Try.f25.ntmps 58 Try.f25.results.toList plans ps ex (pa0_0, stema1_0, inherenta2_0, cella3_0) = paradigm_Underlying M pa0_0 stema1_0 inherenta2_0 cella3_0 := by
  refine Eq.trans (b := runC (C25 M) (X M) M body plans (start (argHs ps (pa0_0, stema1_0, inherenta2_0, cella3_0)) Try.f25.ntmps 58) (K M)) (by kernel_rfl) ?_
  refine (zrun (Hok M) 0 body plans _ (K M) (fun _ => none) fun _ => rfl).symm.trans ?_
  refine (g M _ pa0_0 stema1_0 inherenta2_0 cella3_0).trans ?_
  have x0 := (funext fun pa0_0 => funext fun r20_1 => funext fun form12_1 => funext fun x29_1 => Eq.trans (b := zA M (zlq Qt1 []) Qt1 (S1 pa0_0 r20_1 form12_1 x29_1)) (by kernel_rfl) (e1 M pa0_0 r20_1 form12_1 x29_1) : (fun pa0_0 r20_1 form12_1 x29_1 => zA M (fun _ => none) Qt1 (S1 pa0_0 r20_1 form12_1 x29_1)) = l1 M M)
  rw [x0]; rfl
noncomputable def sig (M : Nat) : Sig E := { ps := ps, rs := rs, ex := ex, fn := fun x => paradigm_Underlying M x.1 x.2.1 x.2.2.1 x.2.2.2 }
theorem says (M : Nat) : callable Try.prog 25 = true ∧ ∀ x y, (sig M).fn x = some y → Says Try.prog 25 (sig M) x y := by
  refine ⟨by kernel_rfl, fun x y h => ?_⟩
  refine says_of_run (S := sig M) (C := C25 M) (X := X M) (M := M) (q := 58) (plans := plans) (COk_Try) (SigOk_C25 M) (ItOk_C25 M) (by kernel_rfl) (callOk_ext COk_Try (SigOk_C25 M) (ItOk_C25 M) (by kernel_rfl) inl_ok.ok (RSigOk_C25 M) (fun _ => callOk_none) M 1) (Try.func25) (body := body) (by kernel_rfl) (by kernel_rfl) ?_
  obtain ⟨pa0_0, stema1_0, inherenta2_0, cella3_0⟩ := x
  exact (run M pa0_0 stema1_0 inherenta2_0 cella3_0).trans h
end paradigm_Underlying
end Go.Ai.Par
end
set_option linter.unusedVariables false
set_option linter.unusedSectionVars false
noncomputable section
namespace Go.Ai.Par
open Go Go.Ai Go.Proofs
noncomputable def sigs47 (M : Nat) : List (Nat × Sig E) := []
noncomputable def rs47 (M : Nat) : List (Nat × Sig E) := []
noncomputable def its47 (M : Nat) : List (Nat × It E) := []
theorem sigs_ok47 (M : Nat) : SigsOk Try.prog (sigs47 M) := SigsOk.nil
theorem rs_ok47 (M : Nat) : SigsOk Try.prog (rs47 M) := SigsOk.nil
theorem its_ok47 (M : Nat) : ItsOk Try.prog (its47 M) := ItsOk.nil
noncomputable def C47 (M : Nat) : Ctx E := { ti := fun t => tisE.lookup t, sig := fun f => (sigs47 M).lookup f, it := fun f => (its47 M).lookup f, nt := 11 }
theorem SigOk_C47 (M : Nat) : SigOk Try.prog (C47 M) := sigs_ok47 M
theorem RSigOk_C47 (M : Nat) : SigOk Try.prog ({ ti := fun _ => none, sig := fun f => (rs47 M).lookup f } : Ctx E) := rs_ok47 M
theorem ItOk_C47 (M : Nat) : ItOk Try.prog (C47 M) := (its_ok47 M).ok
namespace pentaglotref10_Runes
noncomputable def plans : List (Option (Plan Nm)) := [none, none, none, some { tmps := [(3, .asis), (5, .asis)], boxes := [(5, [])] }, none, none, none, none]
noncomputable abbrev body : Code := bodyOf Try.f47
def ps : List (Ty Nm) := [.str]
def rs : List (Ty Nm) := [(.int .i64)]
def ex : List (Option Nat) := [none]
noncomputable def inl : List (Nat × Nat × Nat × Inl Nm) := []
theorem inl_ok : InlsOk Try.prog inl := InlsOk.nil
noncomputable def X (M : Nat) : Ext E Int := extOf (C47 M) (inlOf inl) (fun f => (rs47 M).lookup f) (fun _ _ _ => none) noX M 1
abbrev Rt := Int
noncomputable def H (M : Nat) : Hd E Rt := hd0 (X M)
theorem Hok (M : Nat) : (H M).ok (C47 M) M := hd0_ok _
abbrev Qt1 : List Dir := [.r, .r, .l, .r, .k]
abbrev Ht1 := (List UInt8) → Int → Nat → Option Rt
abbrev Zt := List Dir → St E → Option Rt
abbrev Ut := St E → Option Rt
noncomputable def s1 (M : Nat) (h1 : Ht1) (sa0_0 : (List UInt8)) (n3_1 : Int) (p5_1 : Nat) : Option Rt :=
  cond (decide (p5_1 < sa0_0.length))
   (h1 sa0_0 (IntKind.i64.wrap (n3_1 + 1)) (p5_1 + (dec sa0_0 p5_1).2))
   (some n3_1)
noncomputable def l1 (M : Nat) : Nat → Ht1
  | 0, _, _, _ => none
  | k + 1, sa0_0, n3_1, p5_1 => s1 M (l1 M k) sa0_0 n3_1 p5_1
noncomputable def s (M : Nat) (h1 : Ht1) (sa0_0 : (List UInt8)) : Option Rt :=
  h1 sa0_0 0 0
end pentaglotref10_Runes
noncomputable def pentaglotref10_Runes (M : Nat) (sa0_0 : (List UInt8)) : Option Int :=
  pentaglotref10_Runes.s M (pentaglotref10_Runes.l1 M M) sa0_0
namespace pentaglotref10_Runes
noncomputable def S1 (sa0_0 : (List UInt8)) (n3_1 : Int) (p5_1 : Nat) : St E :=
  mkSt 11 11 [(3, .one (.tv (.int .i64 n3_1))), (5, .one (.ptr 5 0))] [(5, .iter sa0_0 p5_1)] 0 [] [] false
noncomputable def K (M : Nat) : Cont E Int := kRet (C47 M) Try.f47.results.toList rs ex
noncomputable abbrev zA (M : Nat) (ZL : List Dir → Option (Ut)) (q : List Dir) : Ut := zAt (C47 M) (H M) M 0 ZL body plans (K M) q
noncomputable abbrev lA (M : Nat) (ZL : List Dir → Option (Ut)) (q : List Dir) (k : Nat) : Ut := lpAt (C47 M) (H M) M 0 ZL body plans (K M) q k
noncomputable abbrev gA (M : Nat) (Z : Zt) (q : List Dir) : Ut := seg (C47 M) (H M) 0 Z body plans (K M) q
set_option maxRecDepth 100000
theorem g1 (M : Nat) (Z : Zt) (sa0_0 : (List UInt8)) (n3_1 : Int) (p5_1 : Nat) : gA M Z Qt1 (S1 sa0_0 n3_1 p5_1) = s1 M
    (fun sa0_0 n3_1 p5_1 => Z Qt1 (S1 sa0_0 n3_1 p5_1)) sa0_0 n3_1 p5_1 := by kernel_rfl
theorem g (M : Nat) (Z : Zt) (sa0_0 : (List UInt8)) : runZ (C47 M) (extZ (C47 M) (H M) 0) Z body plans (start (argHs ps sa0_0) Try.f47.ntmps 11) (K M) = s M
    (fun sa0_0 n3_1 p5_1 => Z Qt1 (S1 sa0_0 n3_1 p5_1)) sa0_0 := by kernel_rfl
theorem el1 (M : Nat) (k : Nat) (sa0_0 : (List UInt8)) (n3_1 : Int) (p5_1 : Nat) : lA M (zlq Qt1 []) Qt1 k (S1 sa0_0 n3_1 p5_1) = l1 M k sa0_0 n3_1 p5_1 := by
  induction k generalizing sa0_0 n3_1 p5_1 with
  | zero => kernel_rfl
  | succ k ih =>
    refine Eq.trans (b := lA M (zlq Qt1 [lA M (zlq Qt1 []) Qt1 k]) Qt1 (k + 1) (S1 sa0_0 n3_1 p5_1)) (by kernel_rfl) ?_
    refine (seg_loop (Hok M) 0 Qt1 body plans (K M) _ (S1 sa0_0 n3_1 p5_1) (around_zlq _ _ (by kernel_rfl)) (by kernel_rfl) (by kernel_rfl)).trans ?_
    refine (g1 M _ sa0_0 n3_1 p5_1).trans ?_
    have x0 := (funext fun sa0_0 => funext fun n3_1 => funext fun p5_1 => Eq.trans (b := lA M (zlq Qt1 []) Qt1 k (S1 sa0_0 n3_1 p5_1)) (by kernel_rfl) (ih sa0_0 n3_1 p5_1) : (fun sa0_0 n3_1 p5_1 => zA M (zlq Qt1 [lA M (zlq Qt1 []) Qt1 k]) Qt1 (S1 sa0_0 n3_1 p5_1)) = l1 M k)
    rw [x0]; rfl
theorem e1 (M : Nat) (sa0_0 : (List UInt8)) (n3_1 : Int) (p5_1 : Nat) : zA M (zlq Qt1 []) Qt1 (S1 sa0_0 n3_1 p5_1) = l1 M M sa0_0 n3_1 p5_1 :=
  Eq.trans (b := lA M (zlq Qt1 []) Qt1 M (S1 sa0_0 n3_1 p5_1)) (by kernel_rfl) (el1 M M sa0_0 n3_1 p5_1)
theorem run (M : Nat) (sa0_0 : (List UInt8)) : runF (rs := rs) (C47 M) (X M) M body Try.f47.ntmps 11 Try.f47.results.toList plans ps ex sa0_0 = pentaglotref10_Runes M sa0_0 := by
  refine Eq.trans (b := runC (C47 M) (X M) M body plans (start (argHs ps sa0_0) Try.f47.ntmps 11) (K M)) (by kernel_rfl) ?_
  refine (zrun (Hok M) 0 body plans _ (K M) (fun _ => none) fun _ => rfl).symm.trans ?_
  refine (g M _ sa0_0).trans ?_
  have x0 := (funext fun sa0_0 => funext fun n3_1 => funext fun p5_1 => Eq.trans (b := zA M (zlq Qt1 []) Qt1 (S1 sa0_0 n3_1 p5_1)) (by kernel_rfl) (e1 M sa0_0 n3_1 p5_1) : (fun sa0_0 n3_1 p5_1 => zA M (fun _ => none) Qt1 (S1 sa0_0 n3_1 p5_1)) = l1 M M)
  rw [x0]; rfl
noncomputable def sig (M : Nat) : Sig E := { ps := ps, rs := rs, ex := ex, fn := fun x => pentaglotref10_Runes M x }
theorem says (M : Nat) : callable Try.prog 47 = true ∧ ∀ x y, (sig M).fn x = some y → Says Try.prog 47 (sig M) x y := by
  refine ⟨by kernel_rfl, fun x y h => ?_⟩
  refine says_of_run (S := sig M) (C := C47 M) (X := X M) (M := M) (q := 11) (plans := plans) (COk_Try) (SigOk_C47 M) (ItOk_C47 M) (by kernel_rfl) (callOk_ext COk_Try (SigOk_C47 M) (ItOk_C47 M) (by kernel_rfl) inl_ok.ok (RSigOk_C47 M) (fun _ => callOk_none) M 1) (Try.func47) (body := body) (by kernel_rfl) (by kernel_rfl) ?_
  exact (run M x).trans h
end pentaglotref10_Runes
end Go.Ai.Par
end
set_option linter.unusedVariables false
set_option linter.unusedSectionVars false
noncomputable section
namespace Go.Ai.Par
open Go Go.Ai Go.Proofs
noncomputable def sigs26 (M : Nat) : List (Nat × Sig E) := [(21, pentaglotref10_Merge.sig M), (24, pentaglotref10_Chosen.sig M), (47, pentaglotref10_Runes.sig M)]
noncomputable def rs26 (M : Nat) : List (Nat × Sig E) := []
noncomputable def its26 (M : Nat) : List (Nat × It E) := []
theorem sigs_ok26 (M : Nat) : SigsOk Try.prog (sigs26 M) := SigsOk.cons (pentaglotref10_Merge.says M) (SigsOk.cons (pentaglotref10_Chosen.says M) (SigsOk.cons (pentaglotref10_Runes.says M) (SigsOk.nil)))
theorem rs_ok26 (M : Nat) : SigsOk Try.prog (rs26 M) := SigsOk.nil
theorem its_ok26 (M : Nat) : ItsOk Try.prog (its26 M) := ItsOk.nil
noncomputable def C26 (M : Nat) : Ctx E := { ti := fun t => tisE.lookup t, sig := fun f => (sigs26 M).lookup f, it := fun f => (its26 M).lookup f, nt := 61 }
theorem SigOk_C26 (M : Nat) : SigOk Try.prog (C26 M) := sigs_ok26 M
theorem RSigOk_C26 (M : Nat) : SigOk Try.prog ({ ti := fun _ => none, sig := fun f => (rs26 M).lookup f } : Ctx E) := rs_ok26 M
theorem ItOk_C26 (M : Nat) : ItOk Try.prog (C26 M) := (its_ok26 M).ok
namespace pentaglotref10_Underlying
noncomputable def plans : List (Option (Plan Nm)) := [none, none, none, none, none, none, some { tmps := [(1, .asis), (4, .asis), (10, .own (100010, 0, 71) (.st .api_Feature)), (12, .asis)], boxes := [(4, [.asis, .asis, .asis])] }, none, none, none, none, none, some { tmps := [(1, .asis)], boxes := [] }, none, none, none, none]
noncomputable abbrev body : Code := bodyOf Try.f26
def ps : List (Ty Nm) := [(.st .api_Paradigm), .str, (.sl (.st .api_Feature)), (.sl (.st .api_Feature))]
def rs : List (Ty Nm) := [.str, (.int .i64)]
def ex : List (Option Nat) := [none, none]
noncomputable def inl : List (Nat × Nat × Nat × Inl Nm) := []
theorem inl_ok : InlsOk Try.prog inl := InlsOk.nil
noncomputable def X (M : Nat) : Ext E ((List UInt8) × Int) := extOf (C26 M) (inlOf inl) (fun f => (rs26 M).lookup f) (fun _ _ _ => none) noX M 1
abbrev Rt := (List UInt8) × Int
noncomputable def H (M : Nat) : Hd E Rt := hd0 (X M)
theorem Hok (M : Nat) : (H M).ok (C26 M) M := hd0_ok _
abbrev Qt2 : List Dir := [.r, .r, .r]
abbrev Ht2 := (List UInt8) → Option Rt
abbrev Qt1 : List Dir := [.r, .r, .r, .l, .r, .k]
abbrev Ht1 := api_Paradigm → ((List api_Feature) × Bool) → (List UInt8) → Int → Option Rt
abbrev Zt := List Dir → St E → Option Rt
abbrev Ut := St E → Option Rt
noncomputable def s2 (M : Nat) (stem1_2 : (List UInt8)) : Option Rt :=
  Option.bind (pentaglotref10_Runes M stem1_2) fun r58_10 =>
  cond (decide (40 < r58_10))
   (some ([], 2))
   (some (stem1_2, 0))
noncomputable def j2 (M : Nat) (stem1_2 : (List UInt8)) : Option Rt :=
  s2 M stem1_2
noncomputable def s1 (M : Nat) (h1 : Ht1) (h2 : Ht2) (pa0_0 : api_Paradigm) (r18_1 : (List api_Feature) × Bool) (stem1_1 : (List UInt8)) (i12_1 : Int) : Option Rt :=
  cond (decide (i12_1 < (pa0_0.fSlots.length : Int)))
   (Option.bind (pentaglotref10_Chosen M pa0_0 i12_1 r18_1.1) fun r33_9 =>
    cond (decide (0 ≤ r33_9))
     (cond (decide (0 ≤ i12_1) && decide (i12_1 < (pa0_0.fSlots.length : Int)))
       (cond (decide (0 ≤ r33_9) && decide (r33_9 < ((pa0_0.fSlots.getD i12_1.toNat default).length : Int)))
         (cond (decide ((((pa0_0.fSlots.getD i12_1.toNat default).getD r33_9.toNat default).fPrefix).length + stem1_1.length ≤ 1125899906842624))
           (cond (decide (0 ≤ i12_1) && decide (i12_1 < (pa0_0.fSlots.length : Int)))
             (cond (decide (0 ≤ r33_9) && decide (r33_9 < ((pa0_0.fSlots.getD i12_1.toNat default).length : Int)))
               (cond (decide (((((pa0_0.fSlots.getD i12_1.toNat default).getD r33_9.toNat default).fPrefix) ++ stem1_1).length + (((pa0_0.fSlots.getD i12_1.toNat default).getD r33_9.toNat default).fSuffix).length ≤ 1125899906842624))
                 (h1 pa0_0 r18_1 (((((pa0_0.fSlots.getD i12_1.toNat default).getD r33_9.toNat default).fPrefix) ++ stem1_1) ++ (((pa0_0.fSlots.getD i12_1.toNat default).getD r33_9.toNat default).fSuffix)) (IntKind.i64.wrap (i12_1 + 1)))
                 none)
               none)
             none)
           none)
         none)
       none)
     (h1 pa0_0 r18_1 stem1_1 (IntKind.i64.wrap (i12_1 + 1))))
   (h2 stem1_1)
noncomputable def l1 (M : Nat) : Nat → Ht1
  | 0, _, _, _, _ => none
  | k + 1, pa0_0, r18_1, stem1_1, i12_1 => s1 M (l1 M k) (j2 M) pa0_0 r18_1 stem1_1 i12_1
noncomputable def s (M : Nat) (h1 : Ht1) (pa0_0 : api_Paradigm) (stema1_0 : (List UInt8)) (inherenta2_0 : (List api_Feature)) (cella3_0 : (List api_Feature)) : Option Rt :=
  Option.bind (pentaglotref10_Merge M pa0_0 cella3_0 inherenta2_0) fun r18_1 =>
  cond (!r18_1.2)
   (some ([], 1))
   (h1 pa0_0 r18_1 stema1_0 0)
end pentaglotref10_Underlying
noncomputable def pentaglotref10_Underlying (M : Nat) (pa0_0 : api_Paradigm) (stema1_0 : (List UInt8)) (inherenta2_0 : (List api_Feature)) (cella3_0 : (List api_Feature)) : Option ((List UInt8) × Int) :=
  pentaglotref10_Underlying.s M (pentaglotref10_Underlying.l1 M M) pa0_0 stema1_0 inherenta2_0 cella3_0
namespace pentaglotref10_Underlying
noncomputable def S2 (stem1_2 : (List UInt8)) : St E :=
  mkSt 61 61 [(1, .one (.tv (.str stem1_2)))] [] 0 [] [] false
noncomputable def S1 (pa0_0 : api_Paradigm) (r18_1 : (List api_Feature) × Bool) (stem1_1 : (List UInt8)) (i12_1 : Int) : St E :=
  mkSt 61 61 [(1, .one (.tv (.str stem1_1))), (4, .one (.ptr 4 0)), (10, .one (.tok (100010, 0, 71) (.st .api_Feature) r18_1.1)), (12, .one (.tv (.int .i64 i12_1)))] [(4, .cells [.tv (.str pa0_0.fName), .tv (.sl (.st .api_Dimension) pa0_0.fDimensions), .tv (.sl (.sl (.st .api_Affix)) pa0_0.fSlots)])] 0 [] [] false
noncomputable def K (M : Nat) : Cont E ((List UInt8) × Int) := kRet (C26 M) Try.f26.results.toList rs ex
noncomputable abbrev zA (M : Nat) (ZL : List Dir → Option (Ut)) (q : List Dir) : Ut := zAt (C26 M) (H M) M 0 ZL body plans (K M) q
noncomputable abbrev lA (M : Nat) (ZL : List Dir → Option (Ut)) (q : List Dir) (k : Nat) : Ut := lpAt (C26 M) (H M) M 0 ZL body plans (K M) q k
noncomputable abbrev gA (M : Nat) (Z : Zt) (q : List Dir) : Ut := seg (C26 M) (H M) 0 Z body plans (K M) q
set_option maxRecDepth 100000
theorem g2 (M : Nat) (Z : Zt) (stem1_2 : (List UInt8)) : gA M Z Qt2 (S2 stem1_2) = s2 M stem1_2 := by kernel_rfl
theorem g1 (M : Nat) (Z : Zt) (pa0_0 : api_Paradigm) (r18_1 : (List api_Feature) × Bool) (stem1_1 : (List UInt8)) (i12_1 : Int) : gA M Z Qt1 (S1 pa0_0 r18_1 stem1_1 i12_1) = s1 M
    (fun pa0_0 r18_1 stem1_1 i12_1 => Z Qt1 (S1 pa0_0 r18_1 stem1_1 i12_1))
    (fun stem1_2 => Z Qt2 (S2 stem1_2)) pa0_0 r18_1 stem1_1 i12_1 := by kernel_rfl
theorem g (M : Nat) (Z : Zt) (pa0_0 : api_Paradigm) (stema1_0 : (List UInt8)) (inherenta2_0 : (List api_Feature)) (cella3_0 : (List api_Feature)) : runZ (C26 M) (extZ (C26 M) (H M) 0) Z body plans (start (argHs ps (pa0_0, stema1_0, inherenta2_0, cella3_0)) Try.f26.ntmps 61) (K M) = s M
    (fun pa0_0 r18_1 stem1_1 i12_1 => Z Qt1 (S1 pa0_0 r18_1 stem1_1 i12_1)) pa0_0 stema1_0 inherenta2_0 cella3_0 := by kernel_rfl
theorem e2 (M : Nat) (stem1_2 : (List UInt8)) : zA M (zlq Qt2 []) Qt2 (S2 stem1_2) = j2 M stem1_2 := by
  refine (seg_join (Hok M) 0 Qt2 body plans (K M) _ (S2 stem1_2) (around_zlq _ _ (by kernel_rfl)) (by kernel_rfl)).trans ?_
  refine (g2 M _ stem1_2).trans ?_
  rfl
theorem el1 (M : Nat) (k : Nat) (pa0_0 : api_Paradigm) (r18_1 : (List api_Feature) × Bool) (stem1_1 : (List UInt8)) (i12_1 : Int) : lA M (zlq Qt1 []) Qt1 k (S1 pa0_0 r18_1 stem1_1 i12_1) = l1 M k pa0_0 r18_1 stem1_1 i12_1 := by
  induction k generalizing pa0_0 r18_1 stem1_1 i12_1 with
  | zero => kernel_rfl
  | succ k ih =>
    refine Eq.trans (b := lA M (zlq Qt1 [lA M (zlq Qt1 []) Qt1 k]) Qt1 (k + 1) (S1 pa0_0 r18_1 stem1_1 i12_1)) (by kernel_rfl) ?_
    refine (seg_loop (Hok M) 0 Qt1 body plans (K M) _ (S1 pa0_0 r18_1 stem1_1 i12_1) (around_zlq _ _ (by kernel_rfl)) (by kernel_rfl) (by kernel_rfl)).trans ?_
    refine (g1 M _ pa0_0 r18_1 stem1_1 i12_1).trans ?_
    have x0 := (funext fun pa0_0 => funext fun r18_1 => funext fun stem1_1 => funext fun i12_1 => Eq.trans (b := lA M (zlq Qt1 []) Qt1 k (S1 pa0_0 r18_1 stem1_1 i12_1)) (by kernel_rfl) (ih pa0_0 r18_1 stem1_1 i12_1) : (fun pa0_0 r18_1 stem1_1 i12_1 => zA M (zlq Qt1 [lA M (zlq Qt1 []) Qt1 k]) Qt1 (S1 pa0_0 r18_1 stem1_1 i12_1)) = l1 M k)
    have x1 := (funext fun stem1_2 => Eq.trans (b := zA M (zlq Qt2 []) Qt2 (S2 stem1_2)) (by kernel_rfl) (e2 M stem1_2) : (fun stem1_2 => zA M (zlq Qt1 [lA M (zlq Qt1 []) Qt1 k]) Qt2 (S2 stem1_2)) = j2 M)
    rw [x0, x1]; rfl
theorem e1 (M : Nat) (pa0_0 : api_Paradigm) (r18_1 : (List api_Feature) × Bool) (stem1_1 : (List UInt8)) (i12_1 : Int) : zA M (zlq Qt1 []) Qt1 (S1 pa0_0 r18_1 stem1_1 i12_1) = l1 M M pa0_0 r18_1 stem1_1 i12_1 :=
  Eq.trans (b := lA M (zlq Qt1 []) Qt1 M (S1 pa0_0 r18_1 stem1_1 i12_1)) (by kernel_rfl) (el1 M M pa0_0 r18_1 stem1_1 i12_1)
theorem run (M : Nat) (pa0_0 : api_Paradigm) (stema1_0 : (List UInt8)) (inherenta2_0 : (List api_Feature)) (cella3_0 : (List api_Feature)) : runF (rs := rs) (C26 M) (X M) M body Try.f26.ntmps 61 Try.f26.results.toList plans ps ex (pa0_0, stema1_0, inherenta2_0, cella3_0) = pentaglotref10_Underlying M pa0_0 stema1_0 inherenta2_0 cella3_0 := by
  refine Eq.trans (b := runC (C26 M) (X M) M body plans (start (argHs ps (pa0_0, stema1_0, inherenta2_0, cella3_0)) Try.f26.ntmps 61) (K M)) (by kernel_rfl) ?_
  refine (zrun (Hok M) 0 body plans _ (K M) (fun _ => none) fun _ => rfl).symm.trans ?_
  refine (g M _ pa0_0 stema1_0 inherenta2_0 cella3_0).trans ?_
  have x0 := (funext fun pa0_0 => funext fun r18_1 => funext fun stem1_1 => funext fun i12_1 => Eq.trans (b := zA M (zlq Qt1 []) Qt1 (S1 pa0_0 r18_1 stem1_1 i12_1)) (by kernel_rfl) (e1 M pa0_0 r18_1 stem1_1 i12_1) : (fun pa0_0 r18_1 stem1_1 i12_1 => zA M (fun _ => none) Qt1 (S1 pa0_0 r18_1 stem1_1 i12_1)) = l1 M M)
  rw [x0]; rfl
noncomputable def sig (M : Nat) : Sig E := { ps := ps, rs := rs, ex := ex, fn := fun x => pentaglotref10_Underlying M x.1 x.2.1 x.2.2.1 x.2.2.2 }
theorem says (M : Nat) : callable Try.prog 26 = true ∧ ∀ x y, (sig M).fn x = some y → Says Try.prog 26 (sig M) x y := by
  refine ⟨by kernel_rfl, fun x y h => ?_⟩
  refine says_of_run (S := sig M) (C := C26 M) (X := X M) (M := M) (q := 61) (plans := plans) (COk_Try) (SigOk_C26 M) (ItOk_C26 M) (by kernel_rfl) (callOk_ext COk_Try (SigOk_C26 M) (ItOk_C26 M) (by kernel_rfl) inl_ok.ok (RSigOk_C26 M) (fun _ => callOk_none) M 1) (Try.func26) (body := body) (by kernel_rfl) (by kernel_rfl) ?_
  obtain ⟨pa0_0, stema1_0, inherenta2_0, cella3_0⟩ := x
  exact (run M pa0_0 stema1_0 inherenta2_0 cella3_0).trans h
end pentaglotref10_Underlying
end Go.Ai.Par
end
namespace Go.Ai.Par
open Go Go.Ai
variable {M : Nat}

/-! ### Merging -/
theorem unify_asc : ∀ {n : Nat} {a b r : List api_Feature}, Asc a → Asc b → unify n a b = some r → (∀ f ∈ r, f ∈ a ∨ f ∈ b) ∧ Asc r ∧ r.length ≤ a.length + b.length
  | 0, _, _, _, _, _, h => by cases h
  | n + 1, [], b, r, _, hb, h => by
    simp only [unify, Option.some.injEq] at h
    subst h
    exact ⟨fun f hf => .inr hf, hb, by simp⟩
  | n + 1, x :: a, [], r, ha, _, h => by
    simp only [unify, Option.some.injEq] at h
    subst h
    exact ⟨fun f hf => .inl hf, ha, by simp⟩
  | n + 1, x :: a, y :: b, r, ha, hb, h => by
    obtain ⟨ha1, ha2⟩ := List.pairwise_cons.1 ha
    obtain ⟨hb1, hb2⟩ := List.pairwise_cons.1 hb
    simp only [unify] at h
    cases hxy : ltB x y with
    | true =>
      rw [hxy, cond_true, Option.map_eq_some_iff] at h
      obtain ⟨r', hr, rfl⟩ := h
      obtain ⟨h1, h2, h3⟩ := unify_asc ha2 hb hr
      refine ⟨fun f hf => ?_, List.pairwise_cons.2 ⟨fun f hf => ?_, h2⟩, by simp at h3 ⊢; omega⟩
      · rcases List.mem_cons.1 hf with rfl | hf
        · exact .inl (by simp)
        · rcases h1 f hf with h | h
          · exact .inl (List.mem_cons_of_mem _ h)
          · exact .inr h
      · rcases h1 f hf with h | h
        · exact ha1 f h
        · rcases List.mem_cons.1 h with rfl | h
          · exact hxy
          · exact bl_trans hxy (hb1 f h)
    | false =>
      rw [hxy, cond_false] at h
      cases hyx : ltB y x with
      | true =>
        rw [hyx, cond_true, Option.map_eq_some_iff] at h
        obtain ⟨r', hr, rfl⟩ := h
        obtain ⟨h1, h2, h3⟩ := unify_asc ha hb2 hr
        refine ⟨fun f hf => ?_, List.pairwise_cons.2 ⟨fun f hf => ?_, h2⟩, by simp at h3 ⊢; omega⟩
        · rcases List.mem_cons.1 hf with rfl | hf
          · exact .inr (by simp)
          · rcases h1 f hf with h | h
            · exact .inl h
            · exact .inr (List.mem_cons_of_mem _ h)
        · rcases h1 f hf with h | h
          · rcases List.mem_cons.1 h with rfl | h
            · exact hyx
            · exact bl_trans hyx (ha1 f h)
          · exact hb1 f h
      | false =>
        rw [hyx, cond_false] at h
        by_cases hv : x.fValue = y.fValue
        · rw [cpos hv, Option.map_eq_some_iff] at h
          obtain ⟨r', hr, rfl⟩ := h
          obtain ⟨h1, h2, h3⟩ := unify_asc ha2 hb2 hr
          have hn : x.fName = y.fName := bl_tri hxy hyx
          refine ⟨fun f hf => ?_, List.pairwise_cons.2 ⟨fun f hf => ?_, h2⟩, by simp at h3 ⊢; omega⟩
          · rcases List.mem_cons.1 hf with rfl | hf
            · exact .inl (by simp)
            · rcases h1 f hf with h | h
              · exact .inl (List.mem_cons_of_mem _ h)
              · exact .inr (List.mem_cons_of_mem _ h)
          · rcases h1 f hf with h | h
            · exact ha1 f h
            · unfold ltB; rw [hn]; exact hb1 f h
        · rw [cneg hv] at h; cases h

def mergeS (ds : List api_Dimension) (cell inh : List api_Feature) : Option (List api_Feature) := cond (decide (0 ≤ numR ds cell) && isValid inh) (refU cell inh) none

theorem valid_asc {r : List api_Feature} (h : isValid r = true) : Asc r ∧ r.length ≤ 8 := by
  simp only [isValid, Bool.and_eq_true, decide_eq_true_eq] at h
  exact ⟨isRec_iff.1 h.1.2, h.2⟩

theorem paradigm_Merge_eq (hM : 1048576 < M) {p : api_Paradigm} (hd : okDims p.fDimensions) {cell inh : List api_Feature} (hc : cell.length ≤ 1048576) (hi : okR inh) : paradigm_Merge M p cell inh = some (pairOf (mergeS p.fDimensions cell inh)) := by
  simp only [paradigm_Merge, paradigm_Merge.s, paradigm_Number_eq hM hd hc, Option.bind_some, mergeS, numP_numR]
  by_cases h : 0 ≤ numR p.fDimensions cell
  · obtain ⟨h1, h2, h3, _⟩ := num_cells h
    rw [cneg (by omega), feature_Valid_eq hM hi]
    simp only [Option.bind_some, h, decide_true, Bool.true_and]
    cases hv : isValid inh with
    | false => rfl
    | true =>
      obtain ⟨g1, g2⟩ := valid_asc hv
      simp only [Bool.not_true, cond_false, cond_true]
      rw [feature_Unify_eq hM (by omega), unify_ref M cell inh h1 g1 (by omega)]
      rfl
  · rw [cpos (by omega)]; simp [h, pairOf]

theorem ref10_Merge_eq (hM : 1048576 < M) {p : api_Paradigm} (hd : okDims p.fDimensions) {cell inh : List api_Feature} (hi : okR inh) : pentaglotref10_Merge M p cell inh = some (pairOf (mergeS p.fDimensions cell inh)) := by
  simp only [pentaglotref10_Merge, pentaglotref10_Merge.s, ref10_Number_eq hM hd, Option.bind_some, mergeS]
  by_cases h : 0 ≤ numR p.fDimensions cell
  · obtain ⟨h1, h2, h3, _⟩ := num_cells h
    rw [cneg (by omega), ref02_Valid_eq hM hi]
    simp only [Option.bind_some, h, decide_true, Bool.true_and]
    cases hv : isValid inh with
    | false => rfl
    | true =>
      obtain ⟨g1, g2⟩ := valid_asc hv
      simp only [Bool.not_true, cond_false, cond_true]
      rw [ref02_Unify_eq hM (by omega)]
      rfl
  · rw [cpos (by omega)]; simp [h, pairOf]

theorem merge_asc {ds : List api_Dimension} {cell inh m : List api_Feature} (h : mergeS ds cell inh = some m) : Asc m ∧ m.length ≤ 12 := by
  unfold mergeS at h
  by_cases h0 : 0 ≤ numR ds cell
  · cases hv : isValid inh with
    | false => rw [hv] at h; simp at h
    | true =>
      obtain ⟨h1, h2, h3, _⟩ := num_cells h0
      obtain ⟨g1, g2⟩ := valid_asc hv
      rw [hv] at h
      simp only [h0, decide_true, Bool.and_self, cond_true] at h
      rw [← unify_ref (cell.length + inh.length + 1) cell inh h1 g1 (by omega)] at h
      obtain ⟨_, h4, h5⟩ := unify_asc h1 g1 h
      exact ⟨h4, by omega⟩
  · simp [h0] at h

/-! ### Choosing -/
def okAffix (x : api_Affix) : Prop := okR x.fWhen ∧ x.fWhen.length < 1048576 ∧ x.fPrefix.length ≤ 1048576 ∧ x.fSuffix.length ≤ 1048576
def okSlots (ss : List (List api_Affix)) : Prop := ss.length ≤ 1048576 ∧ ∀ s ∈ ss, s.length ≤ 1048576 ∧ ∀ x ∈ s, okAffix x

def chosenS (sub : List api_Feature → List api_Feature → Bool) (ss : List (List api_Affix)) (slot : Int) (r : List api_Feature) : Int :=
  cond (decide (0 ≤ slot) && decide (slot < (ss.length : Int))) (fstIdx (fun x : api_Affix => sub x.fWhen r) (ss.getD slot.toNat default) 0) (-1)

def mkE : Nat → List api_Affix → List feature_entry_int
  | _, [] => []
  | i, x :: xs => ⟨x.fWhen, (i : Int)⟩ :: mkE (i + 1) xs

theorem mkE_length : ∀ (i : Nat) (xs : List api_Affix), (mkE i xs).length = xs.length
  | _, [] => rfl
  | i, x :: xs => by simp [mkE, mkE_length]

theorem mkE_mem : ∀ {i : Nat} {xs : List api_Affix} {e : feature_entry_int}, e ∈ mkE i xs → ∃ x ∈ xs, e.fwhen = x.fWhen
  | _, [], _, h => by cases h
  | i, x :: xs, e, h => by
    simp only [mkE, List.mem_cons] at h
    rcases h with rfl | h
    · exact ⟨x, by simp, rfl⟩
    · obtain ⟨y, hy, e⟩ := mkE_mem h
      exact ⟨y, List.mem_cons_of_mem _ hy, e⟩

theorem mkE_find (r : List api_Feature) : ∀ (i : Nat) (xs : List api_Affix), cond ((mkE i xs).find? fun e => subsP e.fwhen r).isSome ((((mkE i xs).find? fun e => subsP e.fwhen r).map (·.fvalue)).getD 0) (-1) = fstIdx (fun x : api_Affix => subsP x.fWhen r) xs i
  | _, [] => rfl
  | i, x :: xs => by
    simp only [mkE, List.find?_cons, fstIdx]
    cases h : subsP x.fWhen r with
    | true => simp
    | false => simpa using mkE_find r (i + 1) xs

theorem paradigm_Chosen_eq (hM : 1048576 < M) {p : api_Paradigm} (hs : okSlots p.fSlots) {r : List api_Feature} (hr : r.length ≤ 1048576) (slot : Int) : paradigm_Chosen M p slot r = some (chosenS subsP p.fSlots slot r) := by
  unfold paradigm_Chosen paradigm_Chosen.s chosenS
  by_cases h0 : slot < 0
  · rw [cpos h0, cneg2 (by omega)]
  · rw [cneg h0]
    by_cases h1 : (p.fSlots.length : Int) ≤ slot
    · rw [cpos h1, cneg2 (by omega)]
    · rw [cneg h1, cpos2 (by omega) (by omega), cpos2 (by omega) (by omega)]
      obtain ⟨hl, hx⟩ := hs.2 (p.fSlots.getD slot.toNat default) (getD_mem (by omega))
      generalize hS : p.fSlots.getD slot.toNat default = S at *
      have key := overJ (xs := S) (f := fun k i (es : List feature_entry_int) => paradigm_Chosen.l1 M k r p slot i es) (g := fun i t es => paradigm_Chosen.j2 M r (es ++ mkE i t)) (I := fun i es => es.length = i) (fun k es _ => by
        simp only [paradigm_Chosen.l1, paradigm_Chosen.s1, hS, ↓cneg (Int.lt_irrefl _), mkE, List.append_nil]) (fun k i x t es hi hes hxi _ _ ih => by
        obtain ⟨a1, a2, _, _⟩ := hx x (by rw [← hxi]; exact getD_mem hi)
        simp (disch := first | omega | (simp only [len, len0]; omega)) only [paradigm_Chosen.l1, paradigm_Chosen.s1, hS, Int.toNat_natCast, ↓cpos, ↓cpos2, hxi, slices_Clone_eq a1.1, Option.bind_some, wsucc]
        rw [ih _ (by simp [hes])]
        simp [mkE]) (k := M) (by omega) (s := []) rfl
      refine key.trans ?_
      simp only [List.nil_append, paradigm_Chosen.j2, paradigm_Chosen.s2]
      rw [find_eq hM hr (by rw [mkE_length]; exact hl) (fun e he => by
        obtain ⟨x, hx1, e1⟩ := mkE_mem he
        unfold okE
        rw [e1]
        exact (hx x hx1).2.1)]
      simp only [Option.bind_some]
      rw [← mkE_find r 0 S]
      cases ((mkE 0 S).find? fun e => subsP e.fwhen r).isSome <;> rfl

theorem ref10_Chosen_eq (hM : 1048576 < M) {p : api_Paradigm} (hs : okSlots p.fSlots) {r : List api_Feature} (hr : r.length ≤ 1048576) (slot : Int) : pentaglotref10_Chosen M p slot r = some (chosenS subs p.fSlots slot r) := by
  unfold pentaglotref10_Chosen pentaglotref10_Chosen.s chosenS
  by_cases h0 : slot < 0
  · rw [cpos h0, cneg2 (by omega)]
  · rw [cneg h0]
    by_cases h1 : (p.fSlots.length : Int) ≤ slot
    · rw [cpos h1, cneg2 (by omega)]
    · rw [cneg h1, cpos2 (by omega) (by omega)]
      obtain ⟨hl, hx⟩ := hs.2 (p.fSlots.getD slot.toNat default) (getD_mem (by omega))
      generalize hS : p.fSlots.getD slot.toNat default = S at *
      exact overI (xs := S) (f := fun k i (_ : Unit) => pentaglotref10_Chosen.l1 M k r p slot i) (g := fun i t _ => some (fstIdx (fun x : api_Affix => subs x.fWhen r) t i)) (fun k _ => by
        simp (disch := omega) only [pentaglotref10_Chosen.l1, pentaglotref10_Chosen.s1, hS, ↓cpos2, ↓cneg (Int.lt_irrefl _), fstIdx]) (fun k i x t _ hi hxi _ _ ih => by
        have ih := ih ()
        obtain ⟨a1, a2, _, _⟩ := hx x (by rw [← hxi]; exact getD_mem hi)
        simp (disch := omega) only [pentaglotref10_Chosen.l1, pentaglotref10_Chosen.s1, hS, Int.toNat_natCast, ↓cpos, ↓cpos2, hxi, ref02_Subsumes_eq hM a1.1 hr, Option.bind_some, wsucc, ih, fstIdx]
        cases subs x.fWhen r <;> rfl) (k := M) (by omega) ()

theorem chosenS_lt (sub : List api_Feature → List api_Feature → Bool) (ss : List (List api_Affix)) (slot : Int) (r : List api_Feature) : chosenS sub ss slot r < ((ss.getD slot.toNat default).length : Int) ∨ chosenS sub ss slot r = -1 := by
  unfold chosenS
  by_cases h : 0 ≤ slot ∧ slot < (ss.length : Int)
  · rw [cpos2 h.1 h.2]; exact .inl (fstIdx_lt _ _)
  · rw [cneg2 h]; exact .inr rfl

/-- The When of every affix is a record. -/
def ascSlots (ss : List (List api_Affix)) : Prop := ∀ s ∈ ss, ∀ x ∈ s, Asc x.fWhen

theorem chosen_same {ss : List (List api_Affix)} (h : ascSlots ss) {r : List api_Feature} (hr : Asc r) (slot : Int) : chosenS subsP ss slot r = chosenS subs ss slot r := by
  unfold chosenS
  by_cases hs : 0 ≤ slot ∧ slot < (ss.length : Int)
  · rw [cpos2 hs.1 hs.2, cpos2 hs.1 hs.2]
    exact fstIdx_congr 0 fun x hx => subsP_eq (h _ (getD_mem (by omega)) x hx) hr
  · rw [cneg2 hs, cneg2 hs]

/-! ### Underlying forms -/
theorem ref10_Runes_eq {s : List UInt8} (hs : s.length < M) (hM : M ≤ 1099511627776) : pentaglotref10_Runes M s = some (runes s : Int) :=
  runes_loop (s := s) (f := fun k n p => pentaglotref10_Runes.l1 M k s n p) (g := fun n => some (n : Int)) (by omega) (fun k n p h => by
    simp only [pentaglotref10_Runes.l1, pentaglotref10_Runes.s1]; rw [cpos h]) (fun k n p h => by
    simp only [pentaglotref10_Runes.l1, pentaglotref10_Runes.s1]; rw [cneg h]) s.length M 0 0 (by omega) hs (by omega)

theorem utf8_RuneCount_eq {s : List UInt8} (hs : s.length < M) (hM : M ≤ 1099511627776) : unicode_utf8_RuneCountInString M s = some (runes s : Int) :=
  runes_loop (s := s) (f := fun k n p => unicode_utf8_RuneCountInString.l1 M k s n p) (g := fun n => some (n : Int)) (by omega) (fun k n p h => by
    simp only [unicode_utf8_RuneCountInString.l1, unicode_utf8_RuneCountInString.s1]; rw [cpos h]) (fun k n p h => by
    simp only [unicode_utf8_RuneCountInString.l1, unicode_utf8_RuneCountInString.s1]; rw [cneg h]) s.length M 0 0 (by omega) hs (by omega)

def pickA (r : List api_Feature) (s : List api_Affix) : Option api_Affix := s.find? fun x => subs x.fWhen r
def wrapA (r : List api_Feature) (s : List api_Affix) (f : List UInt8) : List UInt8 := match pickA r s with
  | some x => (x.fPrefix ++ f) ++ x.fSuffix
  | none => f
def formS (r : List api_Feature) : List (List api_Affix) → List UInt8 → List UInt8
  | [], f => f
  | s :: ss, f => formS r ss (wrapA r s f)

def szA (s : List api_Affix) : Nat := (s.map fun x => x.fPrefix.length + x.fSuffix.length).sum
def szS (ss : List (List api_Affix)) : Nat := (ss.map szA).sum

theorem fst_find {α : Type} [Inhabited α] (p : α → Bool) : ∀ (xs : List α), (xs.find? p = none ∧ fstIdx p xs 0 = -1) ∨ ∃ j : Nat, j < xs.length ∧ fstIdx p xs 0 = (j : Int) ∧ xs.find? p = some (xs.getD j default) := by
  intro xs
  have key : ∀ (xs : List α) (i : Nat), (xs.find? p = none ∧ fstIdx p xs i = -1) ∨ ∃ j : Nat, j < xs.length ∧ fstIdx p xs i = ((i + j : Nat) : Int) ∧ xs.find? p = some (xs.getD j default) := by
    intro xs
    induction xs with
    | nil => intro i; exact .inl ⟨rfl, rfl⟩
    | cons x xs ih =>
      intro i
      simp only [fstIdx, List.find?_cons]
      cases h : p x with
      | true => exact .inr ⟨0, by simp, by simp, by simp⟩
      | false =>
        rcases ih (i + 1) with ⟨h1, h2⟩ | ⟨j, h1, h2, h3⟩
        · exact .inl ⟨by simpa using h1, by simpa using h2⟩
        · exact .inr ⟨j + 1, by simp only [List.length_cons]; omega, by rw [cond_false, h2]; omega, by simpa using h3⟩
  simpa using key xs 0

theorem wrapA_length (r : List api_Feature) (s : List api_Affix) (f : List UInt8) : (wrapA r s f).length ≤ f.length + szA s := by
  unfold wrapA
  split
  · rename_i x hx
    have hm : x ∈ s := List.mem_of_find?_eq_some hx
    have := sum_mem (fun x : api_Affix => x.fPrefix.length + x.fSuffix.length) hm
    unfold szA
    simp only [List.length_append]
    omega
  · omega

theorem formS_length (r : List api_Feature) : ∀ (ss : List (List api_Affix)) (f : List UInt8), (formS r ss f).length ≤ f.length + szS ss
  | [], f => by simp [formS]
  | s :: ss, f => by
    have h1 := formS_length r ss (wrapA r s f)
    have h2 := wrapA_length r s f
    simp only [formS, szS, List.map_cons, List.sum_cons] at h1 ⊢
    omega

def underS (ds : List api_Dimension) (ss : List (List api_Affix)) (stem : List UInt8) (inh cell : List api_Feature) : List UInt8 × Int := match mergeS ds cell inh with
  | none => ([], 1)
  | some m => cond (decide (40 < (runes (formS m ss stem) : Int))) ([], 2) (formS m ss stem, 0)

theorem ref10_Underlying_eq (hM : 1048576 < M) (hM2 : M ≤ 1099511627776) {p : api_Paradigm} (hd : okDims p.fDimensions) (hs : okSlots p.fSlots) {cell inh : List api_Feature} (hi : okR inh) {stem : List UInt8} (hl : stem.length + szS p.fSlots < M) : pentaglotref10_Underlying M p stem inh cell = some (underS p.fDimensions p.fSlots stem inh cell) := by
  simp only [pentaglotref10_Underlying, pentaglotref10_Underlying.s, ref10_Merge_eq hM hd hi, Option.bind_some, underS]
  cases hm : mergeS p.fDimensions cell inh with
  | none => rfl
  | some m =>
    obtain ⟨m1, m2⟩ := merge_asc hm
    simp only [pairOf, Option.getD_some, Option.isSome_some, Bool.not_true, cond_false]
    have key := overJ (xs := p.fSlots) (f := fun k i (f : List UInt8) => pentaglotref10_Underlying.l1 M k p (m, true) f i) (g := fun i t f => pentaglotref10_Underlying.j2 M (formS m t f)) (I := fun i f => f.length + szS (p.fSlots.drop i) < M) (fun k f _ => by
      simp only [pentaglotref10_Underlying.l1, pentaglotref10_Underlying.s1, ↓cneg (Int.lt_irrefl _), formS]) (fun k i s t f hi' hf hx hdr ht ih => by
      rw [hdr] at hf
      have hmem : s ∈ p.fSlots := by rw [← hx]; exact getD_mem hi'
      obtain ⟨hsl, hsx⟩ := hs.2 s hmem
      have e0 : chosenS subs p.fSlots (i : Int) m = fstIdx (fun x : api_Affix => subs x.fWhen m) s 0 := by
        unfold chosenS
        rw [cpos2 (by omega) (by omega), Int.toNat_natCast, hx]
      have hw := wrapA_length m s f
      have hsz : szA s + szS t = szS (s :: t) := by simp [szS]
      simp (disch := omega) only [pentaglotref10_Underlying.l1, pentaglotref10_Underlying.s1, ↓cpos, ref10_Chosen_eq hM hs (show m.length ≤ 1048576 by omega), Option.bind_some, e0, formS]
      rcases fst_find (fun x : api_Affix => subs x.fWhen m) s with ⟨h1, h2⟩ | ⟨j, h1, h2, h3⟩
      · have ew : wrapA m s f = f := by unfold wrapA pickA; rw [h1]
        rw [h2, cneg (by omega), wsucc (by have := hs.1; omega), ew]
        exact ih f (by rw [ht]; omega)
      · have ew : wrapA m s f = ((s.getD j default).fPrefix ++ f) ++ (s.getD j default).fSuffix := by unfold wrapA pickA; rw [h3]
        have hm2 := sum_mem (fun x : api_Affix => x.fPrefix.length + x.fSuffix.length) (getD_mem h1)
        have hm3 : (s.getD j default).fPrefix.length + (s.getD j default).fSuffix.length ≤ szA s := hm2
        rw [h2]
        have hil := hs.1
        simp (disch := first | omega | (simp only [len, len0]; omega)) only [↓cpos, ↓cpos2, Int.toNat_natCast, hx, wsucc]
        rw [← ew]
        exact ih _ (by rw [ht]; omega)) (k := M) (by have := hs.1; omega) (s := stem) (by simpa using hl)
    refine key.trans ?_
    have hfl := formS_length m p.fSlots stem
    simp only [pentaglotref10_Underlying.j2, pentaglotref10_Underlying.s2, ref10_Runes_eq (show (formS m p.fSlots stem).length < M by omega) hM2, Option.bind_some]
    by_cases h40 : 40 < (runes (formS m p.fSlots stem) : Int)
    · rw [cpos h40, cpos h40]
    · rw [cneg h40, cneg h40]

theorem paradigm_Underlying_eq (hM : 1048576 < M) (hM2 : M ≤ 1099511627776) {p : api_Paradigm} (hd : okDims p.fDimensions) (hs : okSlots p.fSlots) (ha : ascSlots p.fSlots) {cell inh : List api_Feature} (hc : cell.length ≤ 1048576) (hi : okR inh) {stem : List UInt8} (hl : stem.length + szS p.fSlots < M) : paradigm_Underlying M p stem inh cell = some (underS p.fDimensions p.fSlots stem inh cell) := by
  simp only [paradigm_Underlying, paradigm_Underlying.s, paradigm_Merge_eq hM hd hc hi, Option.bind_some, underS]
  cases hm : mergeS p.fDimensions cell inh with
  | none => rfl
  | some m =>
    obtain ⟨m1, m2⟩ := merge_asc hm
    simp only [pairOf, Option.getD_some, Option.isSome_some, Bool.not_true, cond_false]
    have key := overJ (xs := p.fSlots) (f := fun k i (f : List UInt8) => paradigm_Underlying.l1 M k p (m, true) f i) (g := fun i t f => paradigm_Underlying.j2 M (formS m t f)) (I := fun i f => f.length + szS (p.fSlots.drop i) < M) (fun k f _ => by
      simp only [paradigm_Underlying.l1, paradigm_Underlying.s1, ↓cneg (Int.lt_irrefl _), formS]) (fun k i s t f hi' hf hx hdr ht ih => by
      rw [hdr] at hf
      have hmem : s ∈ p.fSlots := by rw [← hx]; exact getD_mem hi'
      obtain ⟨hsl, hsx⟩ := hs.2 s hmem
      have e0 : chosenS subs p.fSlots (i : Int) m = fstIdx (fun x : api_Affix => subs x.fWhen m) s 0 := by
        unfold chosenS
        rw [cpos2 (by omega) (by omega), Int.toNat_natCast, hx]
      have hw := wrapA_length m s f
      have hsz : szA s + szS t = szS (s :: t) := by simp [szS]
      simp (disch := omega) only [paradigm_Underlying.l1, paradigm_Underlying.s1, ↓cpos, paradigm_Chosen_eq hM hs (show m.length ≤ 1048576 by omega), chosen_same ha m1, Option.bind_some, e0, formS]
      rcases fst_find (fun x : api_Affix => subs x.fWhen m) s with ⟨h1, h2⟩ | ⟨j, h1, h2, h3⟩
      · have ew : wrapA m s f = f := by unfold wrapA pickA; rw [h1]
        rw [h2, cneg (by omega), wsucc (by have := hs.1; omega), ew]
        exact ih f (by rw [ht]; omega)
      · have ew : wrapA m s f = ((s.getD j default).fPrefix ++ f) ++ (s.getD j default).fSuffix := by unfold wrapA pickA; rw [h3]
        have hm2 := sum_mem (fun x : api_Affix => x.fPrefix.length + x.fSuffix.length) (getD_mem h1)
        have hm3 : (s.getD j default).fPrefix.length + (s.getD j default).fSuffix.length ≤ szA s := hm2
        rw [h2]
        have hil := hs.1
        simp (disch := first | omega | (simp only [len, len0]; omega)) only [↓cpos, ↓cpos2, Int.toNat_natCast, hx, wsucc]
        rw [← ew]
        exact ih _ (by rw [ht]; omega)) (k := M) (by have := hs.1; omega) (s := stem) (by simpa using hl)
    refine key.trans ?_
    have hfl := formS_length m p.fSlots stem
    simp only [paradigm_Underlying.j2, paradigm_Underlying.s2, utf8_RuneCount_eq (show (formS m p.fSlots stem).length < M by omega) hM2, Option.bind_some]
    by_cases h40 : 40 < (runes (formS m p.fSlots stem) : Int)
    · rw [cpos h40, cpos h40]
    · rw [cneg h40, cneg h40]

end Go.Ai.Par
set_option linter.unusedVariables false
set_option linter.unusedSectionVars false
noncomputable section
namespace Go.Ai.Par
open Go Go.Ai Go.Proofs
noncomputable def sigs74 (M : Nat) : List (Nat × Sig E) := []
noncomputable def rs74 (M : Nat) : List (Nat × Sig E) := []
noncomputable def its74 (M : Nat) : List (Nat × It E) := []
theorem sigs_ok74 (M : Nat) : SigsOk Try.prog (sigs74 M) := SigsOk.nil
theorem rs_ok74 (M : Nat) : SigsOk Try.prog (rs74 M) := SigsOk.nil
theorem its_ok74 (M : Nat) : ItsOk Try.prog (its74 M) := ItsOk.nil
noncomputable def C74 (M : Nat) : Ctx E := { ti := fun t => tisE.lookup t, sig := fun f => (sigs74 M).lookup f, it := fun f => (its74 M).lookup f, nt := 17 }
theorem SigOk_C74 (M : Nat) : SigOk Try.prog (C74 M) := sigs_ok74 M
theorem RSigOk_C74 (M : Nat) : SigOk Try.prog ({ ti := fun _ => none, sig := fun f => (rs74 M).lookup f } : Ctx E) := rs_ok74 M
theorem ItOk_C74 (M : Nat) : ItOk Try.prog (C74 M) := (its_ok74 M).ok
namespace pentaglotref06_code
noncomputable def plans : List (Option (Plan Nm)) := [none, none]
noncomputable abbrev body : Code := bodyOf Try.f74
def ps : List (Ty Nm) := [(.int .i32)]
def rs : List (Ty Nm) := [.bool]
def ex : List (Option Nat) := [none]
noncomputable def inl : List (Nat × Nat × Nat × Inl Nm) := []
theorem inl_ok : InlsOk Try.prog inl := InlsOk.nil
noncomputable def X (M : Nat) : Ext E Bool := extOf (C74 M) (inlOf inl) (fun f => (rs74 M).lookup f) (fun _ _ _ => none) noX M 1
abbrev Rt := Bool
noncomputable def H (M : Nat) : Hd E Rt := hd0 (X M)
theorem Hok (M : Nat) : (H M).ok (C74 M) M := hd0_ok _
abbrev Zt := List Dir → St E → Option Rt
abbrev Ut := St E → Option Rt
noncomputable def s (M : Nat) (ra0_0 : Int) : Option Rt :=
  cond (decide (32 < ra0_0))
   (cond (decide (ra0_0 < 55296))
     (some (decide (ra0_0 ≤ 1114111)))
     (cond (decide (57343 < ra0_0))
       (some (decide (ra0_0 ≤ 1114111)))
       (some false)))
   (some false)
end pentaglotref06_code
noncomputable def pentaglotref06_code (M : Nat) (ra0_0 : Int) : Option Bool :=
  pentaglotref06_code.s M ra0_0
namespace pentaglotref06_code
noncomputable def K (M : Nat) : Cont E Bool := kRet (C74 M) Try.f74.results.toList rs ex
set_option maxRecDepth 100000
theorem g (M : Nat) (Z : Zt) (ra0_0 : Int) : runZ (C74 M) (extZ (C74 M) (H M) 0) Z body plans (start (argHs ps ra0_0) Try.f74.ntmps 17) (K M) = s M ra0_0 := by kernel_rfl
theorem run (M : Nat) (ra0_0 : Int) : runF (rs := rs) (C74 M) (X M) M body Try.f74.ntmps 17 Try.f74.results.toList plans ps ex ra0_0 = pentaglotref06_code M ra0_0 := by
  refine Eq.trans (b := runC (C74 M) (X M) M body plans (start (argHs ps ra0_0) Try.f74.ntmps 17) (K M)) (by kernel_rfl) ?_
  refine (zrun (Hok M) 0 body plans _ (K M) (fun _ => none) fun _ => rfl).symm.trans ?_
  refine (g M _ ra0_0).trans ?_
  rfl
noncomputable def sig (M : Nat) : Sig E := { ps := ps, rs := rs, ex := ex, fn := fun x => pentaglotref06_code M x }
theorem says (M : Nat) : callable Try.prog 74 = true ∧ ∀ x y, (sig M).fn x = some y → Says Try.prog 74 (sig M) x y := by
  refine ⟨by kernel_rfl, fun x y h => ?_⟩
  refine says_of_run (S := sig M) (C := C74 M) (X := X M) (M := M) (q := 17) (plans := plans) (COk_Try) (SigOk_C74 M) (ItOk_C74 M) (by kernel_rfl) (callOk_ext COk_Try (SigOk_C74 M) (ItOk_C74 M) (by kernel_rfl) inl_ok.ok (RSigOk_C74 M) (fun _ => callOk_none) M 1) (Try.func74) (body := body) (by kernel_rfl) (by kernel_rfl) ?_
  exact (run M x).trans h
end pentaglotref06_code
end Go.Ai.Par
end
set_option linter.unusedVariables false
set_option linter.unusedSectionVars false
noncomputable section
namespace Go.Ai.Par
open Go Go.Ai Go.Proofs
noncomputable def sigs75 (M : Nat) : List (Nat × Sig E) := []
noncomputable def rs75 (M : Nat) : List (Nat × Sig E) := []
noncomputable def its75 (M : Nat) : List (Nat × It E) := []
theorem sigs_ok75 (M : Nat) : SigsOk Try.prog (sigs75 M) := SigsOk.nil
theorem rs_ok75 (M : Nat) : SigsOk Try.prog (rs75 M) := SigsOk.nil
theorem its_ok75 (M : Nat) : ItsOk Try.prog (its75 M) := ItsOk.nil
noncomputable def C75 (M : Nat) : Ctx E := { ti := fun t => tisE.lookup t, sig := fun f => (sigs75 M).lookup f, it := fun f => (its75 M).lookup f, nt := 20 }
theorem SigOk_C75 (M : Nat) : SigOk Try.prog (C75 M) := sigs_ok75 M
theorem RSigOk_C75 (M : Nat) : SigOk Try.prog ({ ti := fun _ => none, sig := fun f => (rs75 M).lookup f } : Ctx E) := rs_ok75 M
theorem ItOk_C75 (M : Nat) : ItOk Try.prog (C75 M) := (its_ok75 M).ok
namespace pentaglotref06_Index
noncomputable def plans : List (Option (Plan Nm)) := [none, none, some { tmps := [(0, .asis), (1, .asis), (5, .asis)], boxes := [] }, none, none, none, none, none, none, none]
noncomputable abbrev body : Code := bodyOf Try.f75
def ps : List (Ty Nm) := [(.sl (.st .api_Letter)), (.int .i32)]
def rs : List (Ty Nm) := [(.int .i64)]
def ex : List (Option Nat) := [none]
noncomputable def inl : List (Nat × Nat × Nat × Inl Nm) := []
theorem inl_ok : InlsOk Try.prog inl := InlsOk.nil
noncomputable def X (M : Nat) : Ext E Int := extOf (C75 M) (inlOf inl) (fun f => (rs75 M).lookup f) (fun _ _ _ => none) noX M 1
abbrev Rt := Int
noncomputable def H (M : Nat) : Hd E Rt := hd0 (X M)
theorem Hok (M : Nat) : (H M).ok (C75 M) M := hd0_ok _
abbrev Qt1 : List Dir := [.r, .l, .r, .k]
abbrev Ht1 := (List api_Letter) → Int → Int → Option Rt
abbrev Zt := List Dir → St E → Option Rt
abbrev Ut := St E → Option Rt
noncomputable def s1 (M : Nat) (h1 : Ht1) (aa0_0 : (List api_Letter)) (ra1_0 : Int) (i5_1 : Int) : Option Rt :=
  cond (decide (i5_1 < (aa0_0.length : Int)))
   (cond (decide (0 ≤ i5_1) && decide (i5_1 < (aa0_0.length : Int)))
     (cond (decide (((aa0_0.getD i5_1.toNat default).fRune) = ra1_0))
       (some i5_1)
       (h1 aa0_0 ra1_0 (IntKind.i64.wrap (i5_1 + 1))))
     none)
   (some (-1))
noncomputable def l1 (M : Nat) : Nat → Ht1
  | 0, _, _, _ => none
  | k + 1, aa0_0, ra1_0, i5_1 => s1 M (l1 M k) aa0_0 ra1_0 i5_1
noncomputable def s (M : Nat) (h1 : Ht1) (aa0_0 : (List api_Letter)) (ra1_0 : Int) : Option Rt :=
  h1 aa0_0 ra1_0 0
end pentaglotref06_Index
noncomputable def pentaglotref06_Index (M : Nat) (aa0_0 : (List api_Letter)) (ra1_0 : Int) : Option Int :=
  pentaglotref06_Index.s M (pentaglotref06_Index.l1 M M) aa0_0 ra1_0
namespace pentaglotref06_Index
noncomputable def S1 (aa0_0 : (List api_Letter)) (ra1_0 : Int) (i5_1 : Int) : St E :=
  mkSt 20 20 [(0, .one (.tv (.sl (.st .api_Letter) aa0_0))), (1, .one (.tv (.int .i32 ra1_0))), (5, .one (.tv (.int .i64 i5_1)))] [] 0 [] [] false
noncomputable def K (M : Nat) : Cont E Int := kRet (C75 M) Try.f75.results.toList rs ex
noncomputable abbrev zA (M : Nat) (ZL : List Dir → Option (Ut)) (q : List Dir) : Ut := zAt (C75 M) (H M) M 0 ZL body plans (K M) q
noncomputable abbrev lA (M : Nat) (ZL : List Dir → Option (Ut)) (q : List Dir) (k : Nat) : Ut := lpAt (C75 M) (H M) M 0 ZL body plans (K M) q k
noncomputable abbrev gA (M : Nat) (Z : Zt) (q : List Dir) : Ut := seg (C75 M) (H M) 0 Z body plans (K M) q
set_option maxRecDepth 100000
theorem g1 (M : Nat) (Z : Zt) (aa0_0 : (List api_Letter)) (ra1_0 : Int) (i5_1 : Int) : gA M Z Qt1 (S1 aa0_0 ra1_0 i5_1) = s1 M
    (fun aa0_0 ra1_0 i5_1 => Z Qt1 (S1 aa0_0 ra1_0 i5_1)) aa0_0 ra1_0 i5_1 := by kernel_rfl
theorem g (M : Nat) (Z : Zt) (aa0_0 : (List api_Letter)) (ra1_0 : Int) : runZ (C75 M) (extZ (C75 M) (H M) 0) Z body plans (start (argHs ps (aa0_0, ra1_0)) Try.f75.ntmps 20) (K M) = s M
    (fun aa0_0 ra1_0 i5_1 => Z Qt1 (S1 aa0_0 ra1_0 i5_1)) aa0_0 ra1_0 := by kernel_rfl
theorem el1 (M : Nat) (k : Nat) (aa0_0 : (List api_Letter)) (ra1_0 : Int) (i5_1 : Int) : lA M (zlq Qt1 []) Qt1 k (S1 aa0_0 ra1_0 i5_1) = l1 M k aa0_0 ra1_0 i5_1 := by
  induction k generalizing aa0_0 ra1_0 i5_1 with
  | zero => kernel_rfl
  | succ k ih =>
    refine Eq.trans (b := lA M (zlq Qt1 [lA M (zlq Qt1 []) Qt1 k]) Qt1 (k + 1) (S1 aa0_0 ra1_0 i5_1)) (by kernel_rfl) ?_
    refine (seg_loop (Hok M) 0 Qt1 body plans (K M) _ (S1 aa0_0 ra1_0 i5_1) (around_zlq _ _ (by kernel_rfl)) (by kernel_rfl) (by kernel_rfl)).trans ?_
    refine (g1 M _ aa0_0 ra1_0 i5_1).trans ?_
    have x0 := (funext fun aa0_0 => funext fun ra1_0 => funext fun i5_1 => Eq.trans (b := lA M (zlq Qt1 []) Qt1 k (S1 aa0_0 ra1_0 i5_1)) (by kernel_rfl) (ih aa0_0 ra1_0 i5_1) : (fun aa0_0 ra1_0 i5_1 => zA M (zlq Qt1 [lA M (zlq Qt1 []) Qt1 k]) Qt1 (S1 aa0_0 ra1_0 i5_1)) = l1 M k)
    rw [x0]; rfl
theorem e1 (M : Nat) (aa0_0 : (List api_Letter)) (ra1_0 : Int) (i5_1 : Int) : zA M (zlq Qt1 []) Qt1 (S1 aa0_0 ra1_0 i5_1) = l1 M M aa0_0 ra1_0 i5_1 :=
  Eq.trans (b := lA M (zlq Qt1 []) Qt1 M (S1 aa0_0 ra1_0 i5_1)) (by kernel_rfl) (el1 M M aa0_0 ra1_0 i5_1)
theorem run (M : Nat) (aa0_0 : (List api_Letter)) (ra1_0 : Int) : runF (rs := rs) (C75 M) (X M) M body Try.f75.ntmps 20 Try.f75.results.toList plans ps ex (aa0_0, ra1_0) = pentaglotref06_Index M aa0_0 ra1_0 := by
  refine Eq.trans (b := runC (C75 M) (X M) M body plans (start (argHs ps (aa0_0, ra1_0)) Try.f75.ntmps 20) (K M)) (by kernel_rfl) ?_
  refine (zrun (Hok M) 0 body plans _ (K M) (fun _ => none) fun _ => rfl).symm.trans ?_
  refine (g M _ aa0_0 ra1_0).trans ?_
  have x0 := (funext fun aa0_0 => funext fun ra1_0 => funext fun i5_1 => Eq.trans (b := zA M (zlq Qt1 []) Qt1 (S1 aa0_0 ra1_0 i5_1)) (by kernel_rfl) (e1 M aa0_0 ra1_0 i5_1) : (fun aa0_0 ra1_0 i5_1 => zA M (fun _ => none) Qt1 (S1 aa0_0 ra1_0 i5_1)) = l1 M M)
  rw [x0]; rfl
noncomputable def sig (M : Nat) : Sig E := { ps := ps, rs := rs, ex := ex, fn := fun x => pentaglotref06_Index M x.1 x.2 }
theorem says (M : Nat) : callable Try.prog 75 = true ∧ ∀ x y, (sig M).fn x = some y → Says Try.prog 75 (sig M) x y := by
  refine ⟨by kernel_rfl, fun x y h => ?_⟩
  refine says_of_run (S := sig M) (C := C75 M) (X := X M) (M := M) (q := 20) (plans := plans) (COk_Try) (SigOk_C75 M) (ItOk_C75 M) (by kernel_rfl) (callOk_ext COk_Try (SigOk_C75 M) (ItOk_C75 M) (by kernel_rfl) inl_ok.ok (RSigOk_C75 M) (fun _ => callOk_none) M 1) (Try.func75) (body := body) (by kernel_rfl) (by kernel_rfl) ?_
  obtain ⟨aa0_0, ra1_0⟩ := x
  exact (run M aa0_0 ra1_0).trans h
end pentaglotref06_Index
end Go.Ai.Par
end
set_option linter.unusedVariables false
set_option linter.unusedSectionVars false
noncomputable section
namespace Go.Ai.Par
open Go Go.Ai Go.Proofs
noncomputable def sigs65 (M : Nat) : List (Nat × Sig E) := [(74, pentaglotref06_code.sig M), (75, pentaglotref06_Index.sig M)]
noncomputable def rs65 (M : Nat) : List (Nat × Sig E) := []
noncomputable def its65 (M : Nat) : List (Nat × It E) := []
theorem sigs_ok65 (M : Nat) : SigsOk Try.prog (sigs65 M) := SigsOk.cons (pentaglotref06_code.says M) (SigsOk.cons (pentaglotref06_Index.says M) (SigsOk.nil))
theorem rs_ok65 (M : Nat) : SigsOk Try.prog (rs65 M) := SigsOk.nil
theorem its_ok65 (M : Nat) : ItsOk Try.prog (its65 M) := ItsOk.nil
noncomputable def C65 (M : Nat) : Ctx E := { ti := fun t => tisE.lookup t, sig := fun f => (sigs65 M).lookup f, it := fun f => (its65 M).lookup f, nt := 32 }
theorem SigOk_C65 (M : Nat) : SigOk Try.prog (C65 M) := sigs_ok65 M
theorem RSigOk_C65 (M : Nat) : SigOk Try.prog ({ ti := fun _ => none, sig := fun f => (rs65 M).lookup f } : Ctx E) := rs_ok65 M
theorem ItOk_C65 (M : Nat) : ItOk Try.prog (C65 M) := (its_ok65 M).ok
namespace pentaglotref06_Proper
noncomputable def plans : List (Option (Plan Nm)) := [none, none, none, none, none, some { tmps := [(0, .asis), (3, .asis)], boxes := [] }, none, none, none, none, none, none, none]
noncomputable abbrev body : Code := bodyOf Try.f65
def ps : List (Ty Nm) := [(.sl (.st .api_Letter))]
def rs : List (Ty Nm) := [.bool]
def ex : List (Option Nat) := [none]
noncomputable def inl : List (Nat × Nat × Nat × Inl Nm) := []
theorem inl_ok : InlsOk Try.prog inl := InlsOk.nil
noncomputable def X (M : Nat) : Ext E Bool := extOf (C65 M) (inlOf inl) (fun f => (rs65 M).lookup f) (fun _ _ _ => none) noX M 1
abbrev Rt := Bool
noncomputable def H (M : Nat) : Hd E Rt := hd0 (X M)
theorem Hok (M : Nat) : (H M).ok (C65 M) M := hd0_ok _
abbrev Qt1 : List Dir := [.r, .r, .l, .r, .k]
abbrev Ht1 := (List api_Letter) → Int → Option Rt
abbrev Zt := List Dir → St E → Option Rt
abbrev Ut := St E → Option Rt
noncomputable def s1 (M : Nat) (h1 : Ht1) (aa0_0 : (List api_Letter)) (i3_1 : Int) : Option Rt :=
  cond (decide (i3_1 < (aa0_0.length : Int)))
   (cond (decide (0 ≤ i3_1) && decide (i3_1 < (aa0_0.length : Int)))
     (Option.bind (pentaglotref06_code M ((aa0_0.getD i3_1.toNat default).fRune)) fun r18_15 =>
      cond (!r18_15)
       (some false)
       (cond (decide (0 ≤ i3_1) && decide (i3_1 ≤ (aa0_0.length : Int)))
         (cond (decide (0 ≤ i3_1) && decide (i3_1 < (aa0_0.length : Int)))
           (Option.bind (pentaglotref06_Index M (aa0_0.take i3_1.toNat) ((aa0_0.getD i3_1.toNat default).fRune)) fun r29_16 =>
            cond (decide (0 ≤ r29_16))
             (some false)
             (h1 aa0_0 (IntKind.i64.wrap (i3_1 + 1))))
           none)
         none))
     none)
   (some true)
noncomputable def l1 (M : Nat) : Nat → Ht1
  | 0, _, _ => none
  | k + 1, aa0_0, i3_1 => s1 M (l1 M k) aa0_0 i3_1
noncomputable def s (M : Nat) (h1 : Ht1) (aa0_0 : (List api_Letter)) : Option Rt :=
  cond (decide (65 < (aa0_0.length : Int)))
   (some false)
   (h1 aa0_0 0)
end pentaglotref06_Proper
noncomputable def pentaglotref06_Proper (M : Nat) (aa0_0 : (List api_Letter)) : Option Bool :=
  pentaglotref06_Proper.s M (pentaglotref06_Proper.l1 M M) aa0_0
namespace pentaglotref06_Proper
noncomputable def S1 (aa0_0 : (List api_Letter)) (i3_1 : Int) : St E :=
  mkSt 32 32 [(0, .one (.tv (.sl (.st .api_Letter) aa0_0))), (3, .one (.tv (.int .i64 i3_1)))] [] 0 [] [] false
noncomputable def K (M : Nat) : Cont E Bool := kRet (C65 M) Try.f65.results.toList rs ex
noncomputable abbrev zA (M : Nat) (ZL : List Dir → Option (Ut)) (q : List Dir) : Ut := zAt (C65 M) (H M) M 0 ZL body plans (K M) q
noncomputable abbrev lA (M : Nat) (ZL : List Dir → Option (Ut)) (q : List Dir) (k : Nat) : Ut := lpAt (C65 M) (H M) M 0 ZL body plans (K M) q k
noncomputable abbrev gA (M : Nat) (Z : Zt) (q : List Dir) : Ut := seg (C65 M) (H M) 0 Z body plans (K M) q
set_option maxRecDepth 100000
theorem g1 (M : Nat) (Z : Zt) (aa0_0 : (List api_Letter)) (i3_1 : Int) : gA M Z Qt1 (S1 aa0_0 i3_1) = s1 M
    (fun aa0_0 i3_1 => Z Qt1 (S1 aa0_0 i3_1)) aa0_0 i3_1 := by kernel_rfl
theorem g (M : Nat) (Z : Zt) (aa0_0 : (List api_Letter)) : runZ (C65 M) (extZ (C65 M) (H M) 0) Z body plans (start (argHs ps aa0_0) Try.f65.ntmps 32) (K M) = s M
    (fun aa0_0 i3_1 => Z Qt1 (S1 aa0_0 i3_1)) aa0_0 := by kernel_rfl
theorem el1 (M : Nat) (k : Nat) (aa0_0 : (List api_Letter)) (i3_1 : Int) : lA M (zlq Qt1 []) Qt1 k (S1 aa0_0 i3_1) = l1 M k aa0_0 i3_1 := by
  induction k generalizing aa0_0 i3_1 with
  | zero => kernel_rfl
  | succ k ih =>
    refine Eq.trans (b := lA M (zlq Qt1 [lA M (zlq Qt1 []) Qt1 k]) Qt1 (k + 1) (S1 aa0_0 i3_1)) (by kernel_rfl) ?_
    refine (seg_loop (Hok M) 0 Qt1 body plans (K M) _ (S1 aa0_0 i3_1) (around_zlq _ _ (by kernel_rfl)) (by kernel_rfl) (by kernel_rfl)).trans ?_
    refine (g1 M _ aa0_0 i3_1).trans ?_
    have x0 := (funext fun aa0_0 => funext fun i3_1 => Eq.trans (b := lA M (zlq Qt1 []) Qt1 k (S1 aa0_0 i3_1)) (by kernel_rfl) (ih aa0_0 i3_1) : (fun aa0_0 i3_1 => zA M (zlq Qt1 [lA M (zlq Qt1 []) Qt1 k]) Qt1 (S1 aa0_0 i3_1)) = l1 M k)
    rw [x0]; rfl
theorem e1 (M : Nat) (aa0_0 : (List api_Letter)) (i3_1 : Int) : zA M (zlq Qt1 []) Qt1 (S1 aa0_0 i3_1) = l1 M M aa0_0 i3_1 :=
  Eq.trans (b := lA M (zlq Qt1 []) Qt1 M (S1 aa0_0 i3_1)) (by kernel_rfl) (el1 M M aa0_0 i3_1)
theorem run (M : Nat) (aa0_0 : (List api_Letter)) : runF (rs := rs) (C65 M) (X M) M body Try.f65.ntmps 32 Try.f65.results.toList plans ps ex aa0_0 = pentaglotref06_Proper M aa0_0 := by
  refine Eq.trans (b := runC (C65 M) (X M) M body plans (start (argHs ps aa0_0) Try.f65.ntmps 32) (K M)) (by kernel_rfl) ?_
  refine (zrun (Hok M) 0 body plans _ (K M) (fun _ => none) fun _ => rfl).symm.trans ?_
  refine (g M _ aa0_0).trans ?_
  have x0 := (funext fun aa0_0 => funext fun i3_1 => Eq.trans (b := zA M (zlq Qt1 []) Qt1 (S1 aa0_0 i3_1)) (by kernel_rfl) (e1 M aa0_0 i3_1) : (fun aa0_0 i3_1 => zA M (fun _ => none) Qt1 (S1 aa0_0 i3_1)) = l1 M M)
  rw [x0]; rfl
noncomputable def sig (M : Nat) : Sig E := { ps := ps, rs := rs, ex := ex, fn := fun x => pentaglotref06_Proper M x }
theorem says (M : Nat) : callable Try.prog 65 = true ∧ ∀ x y, (sig M).fn x = some y → Says Try.prog 65 (sig M) x y := by
  refine ⟨by kernel_rfl, fun x y h => ?_⟩
  refine says_of_run (S := sig M) (C := C65 M) (X := X M) (M := M) (q := 32) (plans := plans) (COk_Try) (SigOk_C65 M) (ItOk_C65 M) (by kernel_rfl) (callOk_ext COk_Try (SigOk_C65 M) (ItOk_C65 M) (by kernel_rfl) inl_ok.ok (RSigOk_C65 M) (fun _ => callOk_none) M 1) (Try.func65) (body := body) (by kernel_rfl) (by kernel_rfl) ?_
  exact (run M x).trans h
end pentaglotref06_Proper
end Go.Ai.Par
end
set_option linter.unusedVariables false
set_option linter.unusedSectionVars false
noncomputable section
namespace Go.Ai.Par
open Go Go.Ai Go.Proofs
noncomputable def sigs49 (M : Nat) : List (Nat × Sig E) := [(65, pentaglotref06_Proper.sig M)]
noncomputable def rs49 (M : Nat) : List (Nat × Sig E) := []
noncomputable def its49 (M : Nat) : List (Nat × It E) := []
theorem sigs_ok49 (M : Nat) : SigsOk Try.prog (sigs49 M) := SigsOk.cons (pentaglotref06_Proper.says M) (SigsOk.nil)
theorem rs_ok49 (M : Nat) : SigsOk Try.prog (rs49 M) := SigsOk.nil
theorem its_ok49 (M : Nat) : ItsOk Try.prog (its49 M) := ItsOk.nil
noncomputable def C49 (M : Nat) : Ctx E := { ti := fun t => tisE.lookup t, sig := fun f => (sigs49 M).lookup f, it := fun f => (its49 M).lookup f, nt := 15 }
theorem SigOk_C49 (M : Nat) : SigOk Try.prog (C49 M) := sigs_ok49 M
theorem RSigOk_C49 (M : Nat) : SigOk Try.prog ({ ti := fun _ => none, sig := fun f => (rs49 M).lookup f } : Ctx E) := rs_ok49 M
theorem ItOk_C49 (M : Nat) : ItOk Try.prog (C49 M) := (its_ok49 M).ok
namespace pentaglotref10_Alphabet
noncomputable def plans : List (Option (Plan Nm)) := [none, none]
noncomputable abbrev body : Code := bodyOf Try.f49
def ps : List (Ty Nm) := [(.sl (.st .api_Letter))]
def rs : List (Ty Nm) := [.bool]
def ex : List (Option Nat) := [none]
noncomputable def inl : List (Nat × Nat × Nat × Inl Nm) := []
theorem inl_ok : InlsOk Try.prog inl := InlsOk.nil
noncomputable def X (M : Nat) : Ext E Bool := extOf (C49 M) (inlOf inl) (fun f => (rs49 M).lookup f) (fun _ _ _ => none) noX M 1
abbrev Rt := Bool
noncomputable def H (M : Nat) : Hd E Rt := hd0 (X M)
theorem Hok (M : Nat) : (H M).ok (C49 M) M := hd0_ok _
abbrev Zt := List Dir → St E → Option Rt
abbrev Ut := St E → Option Rt
noncomputable def s (M : Nat) (aa0_0 : (List api_Letter)) : Option Rt :=
  cond (decide (1 ≤ (aa0_0.length : Int)))
   (cond (decide ((aa0_0.length : Int) ≤ 64))
     (Option.bind (pentaglotref06_Proper M aa0_0) fun r13_1 =>
      some r13_1)
     (some false))
   (some false)
end pentaglotref10_Alphabet
noncomputable def pentaglotref10_Alphabet (M : Nat) (aa0_0 : (List api_Letter)) : Option Bool :=
  pentaglotref10_Alphabet.s M aa0_0
namespace pentaglotref10_Alphabet
noncomputable def K (M : Nat) : Cont E Bool := kRet (C49 M) Try.f49.results.toList rs ex
set_option maxRecDepth 100000
theorem g (M : Nat) (Z : Zt) (aa0_0 : (List api_Letter)) : runZ (C49 M) (extZ (C49 M) (H M) 0) Z body plans (start (argHs ps aa0_0) Try.f49.ntmps 15) (K M) = s M aa0_0 := by kernel_rfl
theorem run (M : Nat) (aa0_0 : (List api_Letter)) : runF (rs := rs) (C49 M) (X M) M body Try.f49.ntmps 15 Try.f49.results.toList plans ps ex aa0_0 = pentaglotref10_Alphabet M aa0_0 := by
  refine Eq.trans (b := runC (C49 M) (X M) M body plans (start (argHs ps aa0_0) Try.f49.ntmps 15) (K M)) (by kernel_rfl) ?_
  refine (zrun (Hok M) 0 body plans _ (K M) (fun _ => none) fun _ => rfl).symm.trans ?_
  refine (g M _ aa0_0).trans ?_
  rfl
noncomputable def sig (M : Nat) : Sig E := { ps := ps, rs := rs, ex := ex, fn := fun x => pentaglotref10_Alphabet M x }
theorem says (M : Nat) : callable Try.prog 49 = true ∧ ∀ x y, (sig M).fn x = some y → Says Try.prog 49 (sig M) x y := by
  refine ⟨by kernel_rfl, fun x y h => ?_⟩
  refine says_of_run (S := sig M) (C := C49 M) (X := X M) (M := M) (q := 15) (plans := plans) (COk_Try) (SigOk_C49 M) (ItOk_C49 M) (by kernel_rfl) (callOk_ext COk_Try (SigOk_C49 M) (ItOk_C49 M) (by kernel_rfl) inl_ok.ok (RSigOk_C49 M) (fun _ => callOk_none) M 1) (Try.func49) (body := body) (by kernel_rfl) (by kernel_rfl) ?_
  exact (run M x).trans h
end pentaglotref10_Alphabet
end Go.Ai.Par
end
set_option linter.unusedVariables false
set_option linter.unusedSectionVars false
noncomputable section
namespace Go.Ai.Par
open Go Go.Ai Go.Proofs
noncomputable def sigs67 (M : Nat) : List (Nat × Sig E) := [(75, pentaglotref06_Index.sig M)]
noncomputable def rs67 (M : Nat) : List (Nat × Sig E) := []
noncomputable def its67 (M : Nat) : List (Nat × It E) := []
theorem sigs_ok67 (M : Nat) : SigsOk Try.prog (sigs67 M) := SigsOk.cons (pentaglotref06_Index.says M) (SigsOk.nil)
theorem rs_ok67 (M : Nat) : SigsOk Try.prog (rs67 M) := SigsOk.nil
theorem its_ok67 (M : Nat) : ItsOk Try.prog (its67 M) := ItsOk.nil
noncomputable def C67 (M : Nat) : Ctx E := { ti := fun t => tisE.lookup t, sig := fun f => (sigs67 M).lookup f, it := fun f => (its67 M).lookup f, nt := 34 }
theorem SigOk_C67 (M : Nat) : SigOk Try.prog (C67 M) := sigs_ok67 M
theorem RSigOk_C67 (M : Nat) : SigOk Try.prog ({ ti := fun _ => none, sig := fun f => (rs67 M).lookup f } : Ctx E) := rs_ok67 M
theorem ItOk_C67 (M : Nat) : ItOk Try.prog (C67 M) := (its_ok67 M).ok
namespace pentaglotref06_Over
noncomputable def plans : List (Option (Plan Nm)) := [none, none, none, none, some { tmps := [(0, .asis), (1, .asis), (6, .own (100006, 0, 3) (.int .i64)), (7, .asis), (13, .asis)], boxes := [(13, [])] }, none, none, none, none, none, none, none, none, some { tmps := [(1, .asis), (6, .own (100006, 0, 3) (.int .i64)), (7, .asis)], boxes := [] }, none]
noncomputable abbrev body : Code := bodyOf Try.f67
def ps : List (Ty Nm) := [(.sl (.st .api_Letter)), .str]
def rs : List (Ty Nm) := [(.sl (.int .i64)), .bool]
def ex : List (Option Nat) := [some 3, none]
noncomputable def inl : List (Nat × Nat × Nat × Inl Nm) := []
theorem inl_ok : InlsOk Try.prog inl := InlsOk.nil
noncomputable def X (M : Nat) : Ext E ((List Int) × Bool) := extOf (C67 M) (inlOf inl) (fun f => (rs67 M).lookup f) (fun _ _ _ => none) noX M 1
abbrev Rt := (List Int) × Bool
noncomputable def H (M : Nat) : Hd E Rt := hd0 (X M)
theorem Hok (M : Nat) : (H M).ok (C67 M) M := hd0_ok _
abbrev Qt2 : List Dir := [.r, .r, .r]
abbrev Ht2 := (List UInt8) → (List Int) → (List UInt8) → Option Rt
abbrev Qt1 : List Dir := [.r, .r, .r, .l, .r, .k]
abbrev Ht1 := (List api_Letter) → (List UInt8) → (List Int) → (List UInt8) → Nat → Option Rt
abbrev Zt := List Dir → St E → Option Rt
abbrev Ut := St E → Option Rt
noncomputable def s2 (M : Nat) (sa1_0 : (List UInt8)) (out6_2 : (List Int)) (back7_2 : (List UInt8)) : Option Rt :=
  some (out6_2, decide (back7_2 = sa1_0))
noncomputable def j2 (M : Nat) (sa1_0 : (List UInt8)) (out6_2 : (List Int)) (back7_2 : (List UInt8)) : Option Rt :=
  s2 M sa1_0 out6_2 back7_2
noncomputable def s1 (M : Nat) (h1 : Ht1) (h2 : Ht2) (aa0_0 : (List api_Letter)) (sa1_0 : (List UInt8)) (out6_1 : (List Int)) (back7_1 : (List UInt8)) (p13_1 : Nat) : Option Rt :=
  cond (decide (p13_1 < sa1_0.length))
   (Option.bind (pentaglotref06_Index M aa0_0 ((dec sa1_0 p13_1).1 : Int)) fun r19_8 =>
    cond (decide (r19_8 < 0))
     (some ([], false))
     (cond (decide (out6_1.length + ([r19_8] : List Int).length ≤ lim))
       (cond (decide (back7_1.length + (enc ((dec sa1_0 p13_1).1 : Int)).length ≤ 1125899906842624))
         (h1 aa0_0 sa1_0 (out6_1 ++ [r19_8]) (back7_1 ++ (enc ((dec sa1_0 p13_1).1 : Int))) (p13_1 + (dec sa1_0 p13_1).2))
         none)
       none))
   (h2 sa1_0 out6_1 back7_1)
noncomputable def l1 (M : Nat) : Nat → Ht1
  | 0, _, _, _, _, _ => none
  | k + 1, aa0_0, sa1_0, out6_1, back7_1, p13_1 => s1 M (l1 M k) (j2 M) aa0_0 sa1_0 out6_1 back7_1 p13_1
noncomputable def s (M : Nat) (h1 : Ht1) (aa0_0 : (List api_Letter)) (sa1_0 : (List UInt8)) : Option Rt :=
  h1 aa0_0 sa1_0 ([] : (List Int)) ([] : (List UInt8)) 0
end pentaglotref06_Over
noncomputable def pentaglotref06_Over (M : Nat) (aa0_0 : (List api_Letter)) (sa1_0 : (List UInt8)) : Option ((List Int) × Bool) :=
  pentaglotref06_Over.s M (pentaglotref06_Over.l1 M M) aa0_0 sa1_0
namespace pentaglotref06_Over
noncomputable def S2 (sa1_0 : (List UInt8)) (out6_2 : (List Int)) (back7_2 : (List UInt8)) : St E :=
  mkSt 34 34 [(1, .one (.tv (.str sa1_0))), (6, .one (.tok (100006, 0, 3) (.int .i64) out6_2)), (7, .one (.tv (.str back7_2)))] [] 0 [] [] false
noncomputable def S1 (aa0_0 : (List api_Letter)) (sa1_0 : (List UInt8)) (out6_1 : (List Int)) (back7_1 : (List UInt8)) (p13_1 : Nat) : St E :=
  mkSt 34 34 [(0, .one (.tv (.sl (.st .api_Letter) aa0_0))), (1, .one (.tv (.str sa1_0))), (6, .one (.tok (100006, 0, 3) (.int .i64) out6_1)), (7, .one (.tv (.str back7_1))), (13, .one (.ptr 13 0))] [(13, .iter sa1_0 p13_1)] 0 [] [] false
noncomputable def K (M : Nat) : Cont E ((List Int) × Bool) := kRet (C67 M) Try.f67.results.toList rs ex
noncomputable abbrev zA (M : Nat) (ZL : List Dir → Option (Ut)) (q : List Dir) : Ut := zAt (C67 M) (H M) M 0 ZL body plans (K M) q
noncomputable abbrev lA (M : Nat) (ZL : List Dir → Option (Ut)) (q : List Dir) (k : Nat) : Ut := lpAt (C67 M) (H M) M 0 ZL body plans (K M) q k
noncomputable abbrev gA (M : Nat) (Z : Zt) (q : List Dir) : Ut := seg (C67 M) (H M) 0 Z body plans (K M) q
set_option maxRecDepth 100000
theorem g2 (M : Nat) (Z : Zt) (sa1_0 : (List UInt8)) (out6_2 : (List Int)) (back7_2 : (List UInt8)) : gA M Z Qt2 (S2 sa1_0 out6_2 back7_2) = s2 M sa1_0 out6_2 back7_2 := by kernel_rfl
theorem g1 (M : Nat) (Z : Zt) (aa0_0 : (List api_Letter)) (sa1_0 : (List UInt8)) (out6_1 : (List Int)) (back7_1 : (List UInt8)) (p13_1 : Nat) : gA M Z Qt1 (S1 aa0_0 sa1_0 out6_1 back7_1 p13_1) = s1 M
    (fun aa0_0 sa1_0 out6_1 back7_1 p13_1 => Z Qt1 (S1 aa0_0 sa1_0 out6_1 back7_1 p13_1))
    (fun sa1_0 out6_2 back7_2 => Z Qt2 (S2 sa1_0 out6_2 back7_2)) aa0_0 sa1_0 out6_1 back7_1 p13_1 := by kernel_rfl
theorem g (M : Nat) (Z : Zt) (aa0_0 : (List api_Letter)) (sa1_0 : (List UInt8)) : runZ (C67 M) (extZ (C67 M) (H M) 0) Z body plans (start (argHs ps (aa0_0, sa1_0)) Try.f67.ntmps 34) (K M) = s M
    (fun aa0_0 sa1_0 out6_1 back7_1 p13_1 => Z Qt1 (S1 aa0_0 sa1_0 out6_1 back7_1 p13_1)) aa0_0 sa1_0 := by kernel_rfl
theorem e2 (M : Nat) (sa1_0 : (List UInt8)) (out6_2 : (List Int)) (back7_2 : (List UInt8)) : zA M (zlq Qt2 []) Qt2 (S2 sa1_0 out6_2 back7_2) = j2 M sa1_0 out6_2 back7_2 := by
  refine (seg_join (Hok M) 0 Qt2 body plans (K M) _ (S2 sa1_0 out6_2 back7_2) (around_zlq _ _ (by kernel_rfl)) (by kernel_rfl)).trans ?_
  refine (g2 M _ sa1_0 out6_2 back7_2).trans ?_
  rfl
theorem el1 (M : Nat) (k : Nat) (aa0_0 : (List api_Letter)) (sa1_0 : (List UInt8)) (out6_1 : (List Int)) (back7_1 : (List UInt8)) (p13_1 : Nat) : lA M (zlq Qt1 []) Qt1 k (S1 aa0_0 sa1_0 out6_1 back7_1 p13_1) = l1 M k aa0_0 sa1_0 out6_1 back7_1 p13_1 := by
  induction k generalizing aa0_0 sa1_0 out6_1 back7_1 p13_1 with
  | zero => kernel_rfl
  | succ k ih =>
    refine Eq.trans (b := lA M (zlq Qt1 [lA M (zlq Qt1 []) Qt1 k]) Qt1 (k + 1) (S1 aa0_0 sa1_0 out6_1 back7_1 p13_1)) (by kernel_rfl) ?_
    refine (seg_loop (Hok M) 0 Qt1 body plans (K M) _ (S1 aa0_0 sa1_0 out6_1 back7_1 p13_1) (around_zlq _ _ (by kernel_rfl)) (by kernel_rfl) (by kernel_rfl)).trans ?_
    refine (g1 M _ aa0_0 sa1_0 out6_1 back7_1 p13_1).trans ?_
    have x0 := (funext fun aa0_0 => funext fun sa1_0 => funext fun out6_1 => funext fun back7_1 => funext fun p13_1 => Eq.trans (b := lA M (zlq Qt1 []) Qt1 k (S1 aa0_0 sa1_0 out6_1 back7_1 p13_1)) (by kernel_rfl) (ih aa0_0 sa1_0 out6_1 back7_1 p13_1) : (fun aa0_0 sa1_0 out6_1 back7_1 p13_1 => zA M (zlq Qt1 [lA M (zlq Qt1 []) Qt1 k]) Qt1 (S1 aa0_0 sa1_0 out6_1 back7_1 p13_1)) = l1 M k)
    have x1 := (funext fun sa1_0 => funext fun out6_2 => funext fun back7_2 => Eq.trans (b := zA M (zlq Qt2 []) Qt2 (S2 sa1_0 out6_2 back7_2)) (by kernel_rfl) (e2 M sa1_0 out6_2 back7_2) : (fun sa1_0 out6_2 back7_2 => zA M (zlq Qt1 [lA M (zlq Qt1 []) Qt1 k]) Qt2 (S2 sa1_0 out6_2 back7_2)) = j2 M)
    rw [x0, x1]; rfl
theorem e1 (M : Nat) (aa0_0 : (List api_Letter)) (sa1_0 : (List UInt8)) (out6_1 : (List Int)) (back7_1 : (List UInt8)) (p13_1 : Nat) : zA M (zlq Qt1 []) Qt1 (S1 aa0_0 sa1_0 out6_1 back7_1 p13_1) = l1 M M aa0_0 sa1_0 out6_1 back7_1 p13_1 :=
  Eq.trans (b := lA M (zlq Qt1 []) Qt1 M (S1 aa0_0 sa1_0 out6_1 back7_1 p13_1)) (by kernel_rfl) (el1 M M aa0_0 sa1_0 out6_1 back7_1 p13_1)
theorem run (M : Nat) (aa0_0 : (List api_Letter)) (sa1_0 : (List UInt8)) : runF (rs := rs) (C67 M) (X M) M body Try.f67.ntmps 34 Try.f67.results.toList plans ps ex (aa0_0, sa1_0) = pentaglotref06_Over M aa0_0 sa1_0 := by
  refine Eq.trans (b := runC (C67 M) (X M) M body plans (start (argHs ps (aa0_0, sa1_0)) Try.f67.ntmps 34) (K M)) (by kernel_rfl) ?_
  refine (zrun (Hok M) 0 body plans _ (K M) (fun _ => none) fun _ => rfl).symm.trans ?_
  refine (g M _ aa0_0 sa1_0).trans ?_
  have x0 := (funext fun aa0_0 => funext fun sa1_0 => funext fun out6_1 => funext fun back7_1 => funext fun p13_1 => Eq.trans (b := zA M (zlq Qt1 []) Qt1 (S1 aa0_0 sa1_0 out6_1 back7_1 p13_1)) (by kernel_rfl) (e1 M aa0_0 sa1_0 out6_1 back7_1 p13_1) : (fun aa0_0 sa1_0 out6_1 back7_1 p13_1 => zA M (fun _ => none) Qt1 (S1 aa0_0 sa1_0 out6_1 back7_1 p13_1)) = l1 M M)
  rw [x0]; rfl
noncomputable def sig (M : Nat) : Sig E := { ps := ps, rs := rs, ex := ex, fn := fun x => pentaglotref06_Over M x.1 x.2 }
theorem says (M : Nat) : callable Try.prog 67 = true ∧ ∀ x y, (sig M).fn x = some y → Says Try.prog 67 (sig M) x y := by
  refine ⟨by kernel_rfl, fun x y h => ?_⟩
  refine says_of_run (S := sig M) (C := C67 M) (X := X M) (M := M) (q := 34) (plans := plans) (COk_Try) (SigOk_C67 M) (ItOk_C67 M) (by kernel_rfl) (callOk_ext COk_Try (SigOk_C67 M) (ItOk_C67 M) (by kernel_rfl) inl_ok.ok (RSigOk_C67 M) (fun _ => callOk_none) M 1) (Try.func67) (body := body) (by kernel_rfl) (by kernel_rfl) ?_
  obtain ⟨aa0_0, sa1_0⟩ := x
  exact (run M aa0_0 sa1_0).trans h
end pentaglotref06_Over
end Go.Ai.Par
end
set_option linter.unusedVariables false
set_option linter.unusedSectionVars false
noncomputable section
namespace Go.Ai.Par
open Go Go.Ai Go.Proofs
noncomputable def sigs52 (M : Nat) : List (Nat × Sig E) := [(67, pentaglotref06_Over.sig M)]
noncomputable def rs52 (M : Nat) : List (Nat × Sig E) := []
noncomputable def its52 (M : Nat) : List (Nat × It E) := []
theorem sigs_ok52 (M : Nat) : SigsOk Try.prog (sigs52 M) := SigsOk.cons (pentaglotref06_Over.says M) (SigsOk.nil)
theorem rs_ok52 (M : Nat) : SigsOk Try.prog (rs52 M) := SigsOk.nil
theorem its_ok52 (M : Nat) : ItsOk Try.prog (its52 M) := ItsOk.nil
noncomputable def C52 (M : Nat) : Ctx E := { ti := fun t => tisE.lookup t, sig := fun f => (sigs52 M).lookup f, it := fun f => (its52 M).lookup f, nt := 19 }
theorem SigOk_C52 (M : Nat) : SigOk Try.prog (C52 M) := sigs_ok52 M
theorem RSigOk_C52 (M : Nat) : SigOk Try.prog ({ ti := fun _ => none, sig := fun f => (rs52 M).lookup f } : Ctx E) := rs_ok52 M
theorem ItOk_C52 (M : Nat) : ItOk Try.prog (C52 M) := (its_ok52 M).ok
namespace pentaglotref10_Word
noncomputable def plans : List (Option (Plan Nm)) := [none, none, none]
noncomputable abbrev body : Code := bodyOf Try.f52
def ps : List (Ty Nm) := [(.sl (.st .api_Letter)), .str]
def rs : List (Ty Nm) := [.bool]
def ex : List (Option Nat) := [none]
noncomputable def inl : List (Nat × Nat × Nat × Inl Nm) := []
theorem inl_ok : InlsOk Try.prog inl := InlsOk.nil
noncomputable def X (M : Nat) : Ext E Bool := extOf (C52 M) (inlOf inl) (fun f => (rs52 M).lookup f) (fun _ _ _ => none) noX M 1
abbrev Rt := Bool
noncomputable def H (M : Nat) : Hd E Rt := hd0 (X M)
theorem Hok (M : Nat) : (H M).ok (C52 M) M := hd0_ok _
abbrev Zt := List Dir → St E → Option Rt
abbrev Ut := St E → Option Rt
noncomputable def s (M : Nat) (aa0_0 : (List api_Letter)) (sa1_0 : (List UInt8)) : Option Rt :=
  Option.bind (pentaglotref06_Over M aa0_0 sa1_0) fun r10_1 =>
  cond (r10_1.2)
   (some (decide ((r10_1.1.length : Int) ≤ 40)))
   (some false)
end pentaglotref10_Word
noncomputable def pentaglotref10_Word (M : Nat) (aa0_0 : (List api_Letter)) (sa1_0 : (List UInt8)) : Option Bool :=
  pentaglotref10_Word.s M aa0_0 sa1_0
namespace pentaglotref10_Word
noncomputable def K (M : Nat) : Cont E Bool := kRet (C52 M) Try.f52.results.toList rs ex
set_option maxRecDepth 100000
theorem g (M : Nat) (Z : Zt) (aa0_0 : (List api_Letter)) (sa1_0 : (List UInt8)) : runZ (C52 M) (extZ (C52 M) (H M) 0) Z body plans (start (argHs ps (aa0_0, sa1_0)) Try.f52.ntmps 19) (K M) = s M aa0_0 sa1_0 := by kernel_rfl
theorem run (M : Nat) (aa0_0 : (List api_Letter)) (sa1_0 : (List UInt8)) : runF (rs := rs) (C52 M) (X M) M body Try.f52.ntmps 19 Try.f52.results.toList plans ps ex (aa0_0, sa1_0) = pentaglotref10_Word M aa0_0 sa1_0 := by
  refine Eq.trans (b := runC (C52 M) (X M) M body plans (start (argHs ps (aa0_0, sa1_0)) Try.f52.ntmps 19) (K M)) (by kernel_rfl) ?_
  refine (zrun (Hok M) 0 body plans _ (K M) (fun _ => none) fun _ => rfl).symm.trans ?_
  refine (g M _ aa0_0 sa1_0).trans ?_
  rfl
noncomputable def sig (M : Nat) : Sig E := { ps := ps, rs := rs, ex := ex, fn := fun x => pentaglotref10_Word M x.1 x.2 }
theorem says (M : Nat) : callable Try.prog 52 = true ∧ ∀ x y, (sig M).fn x = some y → Says Try.prog 52 (sig M) x y := by
  refine ⟨by kernel_rfl, fun x y h => ?_⟩
  refine says_of_run (S := sig M) (C := C52 M) (X := X M) (M := M) (q := 19) (plans := plans) (COk_Try) (SigOk_C52 M) (ItOk_C52 M) (by kernel_rfl) (callOk_ext COk_Try (SigOk_C52 M) (ItOk_C52 M) (by kernel_rfl) inl_ok.ok (RSigOk_C52 M) (fun _ => callOk_none) M 1) (Try.func52) (body := body) (by kernel_rfl) (by kernel_rfl) ?_
  obtain ⟨aa0_0, sa1_0⟩ := x
  exact (run M aa0_0 sa1_0).trans h
end pentaglotref10_Word
end Go.Ai.Par
end
set_option linter.unusedVariables false
set_option linter.unusedSectionVars false
noncomputable section
namespace Go.Ai.Par
open Go Go.Ai Go.Proofs
noncomputable def sigs30 (M : Nat) : List (Nat × Sig E) := [(40, pentaglotref02_Valid.sig M), (49, pentaglotref10_Alphabet.sig M), (50, pentaglotref02_Name.sig M), (51, pentaglotref02_Dimensions.sig M), (52, pentaglotref10_Word.sig M)]
noncomputable def rs30 (M : Nat) : List (Nat × Sig E) := []
noncomputable def its30 (M : Nat) : List (Nat × It E) := []
theorem sigs_ok30 (M : Nat) : SigsOk Try.prog (sigs30 M) := SigsOk.cons (pentaglotref02_Valid.says M) (SigsOk.cons (pentaglotref10_Alphabet.says M) (SigsOk.cons (pentaglotref02_Name.says M) (SigsOk.cons (pentaglotref02_Dimensions.says M) (SigsOk.cons (pentaglotref10_Word.says M) (SigsOk.nil)))))
theorem rs_ok30 (M : Nat) : SigsOk Try.prog (rs30 M) := SigsOk.nil
theorem its_ok30 (M : Nat) : ItsOk Try.prog (its30 M) := ItsOk.nil
noncomputable def C30 (M : Nat) : Ctx E := { ti := fun t => tisE.lookup t, sig := fun f => (sigs30 M).lookup f, it := fun f => (its30 M).lookup f, nt := 79 }
theorem SigOk_C30 (M : Nat) : SigOk Try.prog (C30 M) := sigs_ok30 M
theorem RSigOk_C30 (M : Nat) : SigOk Try.prog ({ ti := fun _ => none, sig := fun f => (rs30 M).lookup f } : Ctx E) := rs_ok30 M
theorem ItOk_C30 (M : Nat) : ItOk Try.prog (C30 M) := (its_ok30 M).ok
namespace pentaglotref10_Valid
noncomputable def plans : List (Option (Plan Nm)) := [none, none, none, none, none, some { tmps := [(0, .asis), (3, .asis), (5, .asis)], boxes := [(3, [.asis, .asis, .asis])] }, none, none, none, none, none, none, some { tmps := [(0, .asis), (3, .asis), (5, .asis), (6, .asis)], boxes := [(3, [.asis, .asis, .asis])] }, none, none, none, none, none, none, none, none, none]
noncomputable abbrev body : Code := bodyOf Try.f30
def ps : List (Ty Nm) := [(.sl (.st .api_Letter)), (.st .api_Paradigm)]
def rs : List (Ty Nm) := [.bool]
def ex : List (Option Nat) := [none]
noncomputable def inl : List (Nat × Nat × Nat × Inl Nm) := []
theorem inl_ok : InlsOk Try.prog inl := InlsOk.nil
noncomputable def X (M : Nat) : Ext E Bool := extOf (C30 M) (inlOf inl) (fun f => (rs30 M).lookup f) (fun _ _ _ => none) noX M 1
abbrev Rt := Bool
noncomputable def H (M : Nat) : Hd E Rt := hd0 (X M)
theorem Hok (M : Nat) : (H M).ok (C30 M) M := hd0_ok _
abbrev Qt2 : List Dir := [.r, .r, .l, .r, .k, .L, .r, .l, .k, .r, .r, .k]
abbrev Ht2 := (List api_Letter) → Int → api_Paradigm → Int → Option Rt
abbrev Qt1 : List Dir := [.r, .r, .l, .r, .k]
abbrev Ht1 := (List api_Letter) → api_Paradigm → Int → Option Rt
abbrev Zt := List Dir → St E → Option Rt
abbrev Ut := St E → Option Rt
noncomputable def s2 (M : Nat) (h1 : Ht1) (h2 : Ht2) (aa0_0 : (List api_Letter)) (i5_1 : Int) (pa1_0 : api_Paradigm) (k6_2 : Int) : Option Rt :=
  cond (decide (0 ≤ i5_1) && decide (i5_1 < (pa1_0.fSlots.length : Int)))
   (cond (decide (k6_2 < ((pa1_0.fSlots.getD i5_1.toNat default).length : Int)))
     (cond (decide (0 ≤ i5_1) && decide (i5_1 < (pa1_0.fSlots.length : Int)))
       (cond (decide (0 ≤ k6_2) && decide (k6_2 < ((pa1_0.fSlots.getD i5_1.toNat default).length : Int)))
         (Option.bind (pentaglotref02_Valid M (((pa1_0.fSlots.getD i5_1.toNat default).getD k6_2.toNat default).fWhen)) fun r63_106 =>
          cond (!r63_106)
           (some false)
           (Option.bind (pentaglotref10_Word M aa0_0 (((pa1_0.fSlots.getD i5_1.toNat default).getD k6_2.toNat default).fPrefix)) fun r69_107 =>
            cond (!r69_107)
             (some false)
             (Option.bind (pentaglotref10_Word M aa0_0 (((pa1_0.fSlots.getD i5_1.toNat default).getD k6_2.toNat default).fSuffix)) fun r76_108 =>
              cond (!r76_108)
               (some false)
               (h2 aa0_0 i5_1 pa1_0 (IntKind.i64.wrap (k6_2 + 1))))))
         none)
       none)
     (h1 aa0_0 pa1_0 (IntKind.i64.wrap (i5_1 + 1))))
   none
noncomputable def l2 (M : Nat) (h1 : Ht1) : Nat → Ht2
  | 0, _, _, _, _ => none
  | k + 1, aa0_0, i5_1, pa1_0, k6_2 => s2 M h1 (l2 M h1 k) aa0_0 i5_1 pa1_0 k6_2
noncomputable def s1 (M : Nat) (h2 : Ht2) (aa0_0 : (List api_Letter)) (pa1_0 : api_Paradigm) (i5_1 : Int) : Option Rt :=
  cond (decide (i5_1 < (pa1_0.fSlots.length : Int)))
   (cond (decide (0 ≤ i5_1) && decide (i5_1 < (pa1_0.fSlots.length : Int)))
     (cond (decide (64 < ((pa1_0.fSlots.getD i5_1.toNat default).length : Int)))
       (some false)
       (h2 aa0_0 i5_1 pa1_0 0))
     none)
   (some true)
noncomputable def l1 (M : Nat) : Nat → Ht1
  | 0, _, _, _ => none
  | k + 1, aa0_0, pa1_0, i5_1 => s1 M (l2 M (l1 M k) M) aa0_0 pa1_0 i5_1
noncomputable def s (M : Nat) (h1 : Ht1) (aa0_0 : (List api_Letter)) (pa1_0 : api_Paradigm) : Option Rt :=
  Option.bind (pentaglotref10_Alphabet M aa0_0) fun r9_10 =>
  cond (!r9_10)
   (some false)
   (Option.bind (pentaglotref02_Name M pa1_0.fName) fun r14_11 =>
    cond (!r14_11)
     (some false)
     (Option.bind (pentaglotref02_Dimensions M pa1_0.fDimensions) fun r20_12 =>
      cond (!r20_12)
       (some false)
       (cond (decide (8 < (pa1_0.fSlots.length : Int)))
         (some false)
         (h1 aa0_0 pa1_0 0))))
end pentaglotref10_Valid
noncomputable def pentaglotref10_Valid (M : Nat) (aa0_0 : (List api_Letter)) (pa1_0 : api_Paradigm) : Option Bool :=
  pentaglotref10_Valid.s M (pentaglotref10_Valid.l1 M M) aa0_0 pa1_0
namespace pentaglotref10_Valid
noncomputable def S2 (aa0_0 : (List api_Letter)) (i5_1 : Int) (pa1_0 : api_Paradigm) (k6_2 : Int) : St E :=
  mkSt 79 79 [(0, .one (.tv (.sl (.st .api_Letter) aa0_0))), (3, .one (.ptr 3 0)), (5, .one (.tv (.int .i64 i5_1))), (6, .one (.tv (.int .i64 k6_2)))] [(3, .cells [.tv (.str pa1_0.fName), .tv (.sl (.st .api_Dimension) pa1_0.fDimensions), .tv (.sl (.sl (.st .api_Affix)) pa1_0.fSlots)])] 0 [] [] false
noncomputable def S1 (aa0_0 : (List api_Letter)) (pa1_0 : api_Paradigm) (i5_1 : Int) : St E :=
  mkSt 79 79 [(0, .one (.tv (.sl (.st .api_Letter) aa0_0))), (3, .one (.ptr 3 0)), (5, .one (.tv (.int .i64 i5_1)))] [(3, .cells [.tv (.str pa1_0.fName), .tv (.sl (.st .api_Dimension) pa1_0.fDimensions), .tv (.sl (.sl (.st .api_Affix)) pa1_0.fSlots)])] 0 [] [] false
noncomputable def K (M : Nat) : Cont E Bool := kRet (C30 M) Try.f30.results.toList rs ex
noncomputable abbrev zA (M : Nat) (ZL : List Dir → Option (Ut)) (q : List Dir) : Ut := zAt (C30 M) (H M) M 0 ZL body plans (K M) q
noncomputable abbrev lA (M : Nat) (ZL : List Dir → Option (Ut)) (q : List Dir) (k : Nat) : Ut := lpAt (C30 M) (H M) M 0 ZL body plans (K M) q k
noncomputable abbrev gA (M : Nat) (Z : Zt) (q : List Dir) : Ut := seg (C30 M) (H M) 0 Z body plans (K M) q
set_option maxRecDepth 100000
theorem g2 (M : Nat) (Z : Zt) (aa0_0 : (List api_Letter)) (i5_1 : Int) (pa1_0 : api_Paradigm) (k6_2 : Int) : gA M Z Qt2 (S2 aa0_0 i5_1 pa1_0 k6_2) = s2 M
    (fun aa0_0 pa1_0 i5_1 => Z Qt1 (S1 aa0_0 pa1_0 i5_1))
    (fun aa0_0 i5_1 pa1_0 k6_2 => Z Qt2 (S2 aa0_0 i5_1 pa1_0 k6_2)) aa0_0 i5_1 pa1_0 k6_2 := by kernel_rfl
theorem g1 (M : Nat) (Z : Zt) (aa0_0 : (List api_Letter)) (pa1_0 : api_Paradigm) (i5_1 : Int) : gA M Z Qt1 (S1 aa0_0 pa1_0 i5_1) = s1 M
    (fun aa0_0 i5_1 pa1_0 k6_2 => Z Qt2 (S2 aa0_0 i5_1 pa1_0 k6_2)) aa0_0 pa1_0 i5_1 := by kernel_rfl
theorem g (M : Nat) (Z : Zt) (aa0_0 : (List api_Letter)) (pa1_0 : api_Paradigm) : runZ (C30 M) (extZ (C30 M) (H M) 0) Z body plans (start (argHs ps (aa0_0, pa1_0)) Try.f30.ntmps 79) (K M) = s M
    (fun aa0_0 pa1_0 i5_1 => Z Qt1 (S1 aa0_0 pa1_0 i5_1)) aa0_0 pa1_0 := by kernel_rfl
theorem el2 (M : Nat) (Z1 : Ut) (h1 : Ht1) (hZ1 : ∀ (aa0_0 : (List api_Letter)) (pa1_0 : api_Paradigm) (i5_1 : Int), Z1 (S1 aa0_0 pa1_0 i5_1) = h1 aa0_0 pa1_0 i5_1) (k : Nat) (aa0_0 : (List api_Letter)) (i5_1 : Int) (pa1_0 : api_Paradigm) (k6_2 : Int) : lA M (zlq Qt2 [Z1]) Qt2 k (S2 aa0_0 i5_1 pa1_0 k6_2) = l2 M h1 k aa0_0 i5_1 pa1_0 k6_2 := by
  induction k generalizing aa0_0 i5_1 pa1_0 k6_2 with
  | zero => kernel_rfl
  | succ k ih =>
    refine Eq.trans (b := lA M (zlq Qt2 [Z1, lA M (zlq Qt2 [Z1]) Qt2 k]) Qt2 (k + 1) (S2 aa0_0 i5_1 pa1_0 k6_2)) (by kernel_rfl) ?_
    refine (seg_loop (Hok M) 0 Qt2 body plans (K M) _ (S2 aa0_0 i5_1 pa1_0 k6_2) (around_zlq _ _ (by kernel_rfl)) (by kernel_rfl) (by kernel_rfl)).trans ?_
    refine (g2 M _ aa0_0 i5_1 pa1_0 k6_2).trans ?_
    have x0 := (funext fun aa0_0 => funext fun pa1_0 => funext fun i5_1 => Eq.trans (b := Z1 (S1 aa0_0 pa1_0 i5_1)) (by kernel_rfl) (hZ1 aa0_0 pa1_0 i5_1) : (fun aa0_0 pa1_0 i5_1 => zA M (zlq Qt2 [Z1, lA M (zlq Qt2 [Z1]) Qt2 k]) Qt1 (S1 aa0_0 pa1_0 i5_1)) = h1)
    have x1 := (funext fun aa0_0 => funext fun i5_1 => funext fun pa1_0 => funext fun k6_2 => Eq.trans (b := lA M (zlq Qt2 [Z1]) Qt2 k (S2 aa0_0 i5_1 pa1_0 k6_2)) (by kernel_rfl) (ih aa0_0 i5_1 pa1_0 k6_2) : (fun aa0_0 i5_1 pa1_0 k6_2 => zA M (zlq Qt2 [Z1, lA M (zlq Qt2 [Z1]) Qt2 k]) Qt2 (S2 aa0_0 i5_1 pa1_0 k6_2)) = l2 M h1 k)
    rw [x0, x1]; rfl
theorem e2 (M : Nat) (Z1 : Ut) (h1 : Ht1) (hZ1 : ∀ (aa0_0 : (List api_Letter)) (pa1_0 : api_Paradigm) (i5_1 : Int), Z1 (S1 aa0_0 pa1_0 i5_1) = h1 aa0_0 pa1_0 i5_1) (aa0_0 : (List api_Letter)) (i5_1 : Int) (pa1_0 : api_Paradigm) (k6_2 : Int) : zA M (zlq Qt2 [Z1]) Qt2 (S2 aa0_0 i5_1 pa1_0 k6_2) = l2 M h1 M aa0_0 i5_1 pa1_0 k6_2 :=
  Eq.trans (b := lA M (zlq Qt2 [Z1]) Qt2 M (S2 aa0_0 i5_1 pa1_0 k6_2)) (by kernel_rfl) (el2 M Z1 h1 hZ1 M aa0_0 i5_1 pa1_0 k6_2)
theorem el1 (M : Nat) (k : Nat) (aa0_0 : (List api_Letter)) (pa1_0 : api_Paradigm) (i5_1 : Int) : lA M (zlq Qt1 []) Qt1 k (S1 aa0_0 pa1_0 i5_1) = l1 M k aa0_0 pa1_0 i5_1 := by
  induction k generalizing aa0_0 pa1_0 i5_1 with
  | zero => kernel_rfl
  | succ k ih =>
    refine Eq.trans (b := lA M (zlq Qt1 [lA M (zlq Qt1 []) Qt1 k]) Qt1 (k + 1) (S1 aa0_0 pa1_0 i5_1)) (by kernel_rfl) ?_
    refine (seg_loop (Hok M) 0 Qt1 body plans (K M) _ (S1 aa0_0 pa1_0 i5_1) (around_zlq _ _ (by kernel_rfl)) (by kernel_rfl) (by kernel_rfl)).trans ?_
    refine (g1 M _ aa0_0 pa1_0 i5_1).trans ?_
    have x0 := (funext fun aa0_0 => funext fun i5_1 => funext fun pa1_0 => funext fun k6_2 => Eq.trans (b := zA M (zlq Qt2 [(lA M (zlq Qt1 []) Qt1 k)]) Qt2 (S2 aa0_0 i5_1 pa1_0 k6_2)) (by kernel_rfl) (e2 M (lA M (zlq Qt1 []) Qt1 k) (l1 M k) (fun aa0_0 pa1_0 i5_1 => ih aa0_0 pa1_0 i5_1) aa0_0 i5_1 pa1_0 k6_2) : (fun aa0_0 i5_1 pa1_0 k6_2 => zA M (zlq Qt1 [lA M (zlq Qt1 []) Qt1 k]) Qt2 (S2 aa0_0 i5_1 pa1_0 k6_2)) = l2 M (l1 M k) M)
    rw [x0]; rfl
theorem e1 (M : Nat) (aa0_0 : (List api_Letter)) (pa1_0 : api_Paradigm) (i5_1 : Int) : zA M (zlq Qt1 []) Qt1 (S1 aa0_0 pa1_0 i5_1) = l1 M M aa0_0 pa1_0 i5_1 :=
  Eq.trans (b := lA M (zlq Qt1 []) Qt1 M (S1 aa0_0 pa1_0 i5_1)) (by kernel_rfl) (el1 M M aa0_0 pa1_0 i5_1)
theorem run (M : Nat) (aa0_0 : (List api_Letter)) (pa1_0 : api_Paradigm) : runF (rs := rs) (C30 M) (X M) M body Try.f30.ntmps 79 Try.f30.results.toList plans ps ex (aa0_0, pa1_0) = pentaglotref10_Valid M aa0_0 pa1_0 := by
  refine Eq.trans (b := runC (C30 M) (X M) M body plans (start (argHs ps (aa0_0, pa1_0)) Try.f30.ntmps 79) (K M)) (by kernel_rfl) ?_
  refine (zrun (Hok M) 0 body plans _ (K M) (fun _ => none) fun _ => rfl).symm.trans ?_
  refine (g M _ aa0_0 pa1_0).trans ?_
  have x0 := (funext fun aa0_0 => funext fun pa1_0 => funext fun i5_1 => Eq.trans (b := zA M (zlq Qt1 []) Qt1 (S1 aa0_0 pa1_0 i5_1)) (by kernel_rfl) (e1 M aa0_0 pa1_0 i5_1) : (fun aa0_0 pa1_0 i5_1 => zA M (fun _ => none) Qt1 (S1 aa0_0 pa1_0 i5_1)) = l1 M M)
  rw [x0]; rfl
noncomputable def sig (M : Nat) : Sig E := { ps := ps, rs := rs, ex := ex, fn := fun x => pentaglotref10_Valid M x.1 x.2 }
theorem says (M : Nat) : callable Try.prog 30 = true ∧ ∀ x y, (sig M).fn x = some y → Says Try.prog 30 (sig M) x y := by
  refine ⟨by kernel_rfl, fun x y h => ?_⟩
  refine says_of_run (S := sig M) (C := C30 M) (X := X M) (M := M) (q := 79) (plans := plans) (COk_Try) (SigOk_C30 M) (ItOk_C30 M) (by kernel_rfl) (callOk_ext COk_Try (SigOk_C30 M) (ItOk_C30 M) (by kernel_rfl) inl_ok.ok (RSigOk_C30 M) (fun _ => callOk_none) M 1) (Try.func30) (body := body) (by kernel_rfl) (by kernel_rfl) ?_
  obtain ⟨aa0_0, pa1_0⟩ := x
  exact (run M aa0_0 pa1_0).trans h
end pentaglotref10_Valid
end Go.Ai.Par
end
set_option linter.unusedVariables false
set_option linter.unusedSectionVars false
noncomputable section
namespace Go.Ai.Par
open Go Go.Ai Go.Proofs
noncomputable def sigs33 (M : Nat) : List (Nat × Sig E) := [(14, pentaglotref10_Cells.sig M)]
noncomputable def rs33 (M : Nat) : List (Nat × Sig E) := []
noncomputable def its33 (M : Nat) : List (Nat × It E) := []
theorem sigs_ok33 (M : Nat) : SigsOk Try.prog (sigs33 M) := SigsOk.cons (pentaglotref10_Cells.says M) (SigsOk.nil)
theorem rs_ok33 (M : Nat) : SigsOk Try.prog (rs33 M) := SigsOk.nil
theorem its_ok33 (M : Nat) : ItsOk Try.prog (its33 M) := ItsOk.nil
noncomputable def C33 (M : Nat) : Ctx E := { ti := fun t => tisE.lookup t, sig := fun f => (sigs33 M).lookup f, it := fun f => (its33 M).lookup f, nt := 28 }
theorem SigOk_C33 (M : Nat) : SigOk Try.prog (C33 M) := sigs_ok33 M
theorem RSigOk_C33 (M : Nat) : SigOk Try.prog ({ ti := fun _ => none, sig := fun f => (rs33 M).lookup f } : Ctx E) := rs_ok33 M
theorem ItOk_C33 (M : Nat) : ItOk Try.prog (C33 M) := (its_ok33 M).ok
namespace pentaglotref10_Small
noncomputable def plans : List (Option (Plan Nm)) := [none, none, none, none, none, some { tmps := [(1, .asis), (3, .asis)], boxes := [(1, [.asis, .asis, .asis])] }, none, none, none, none, none, none, none]
noncomputable abbrev body : Code := bodyOf Try.f33
def ps : List (Ty Nm) := [(.st .api_Paradigm)]
def rs : List (Ty Nm) := [.bool]
def ex : List (Option Nat) := [none]
noncomputable def inl : List (Nat × Nat × Nat × Inl Nm) := []
theorem inl_ok : InlsOk Try.prog inl := InlsOk.nil
noncomputable def X (M : Nat) : Ext E Bool := extOf (C33 M) (inlOf inl) (fun f => (rs33 M).lookup f) (fun _ _ _ => none) noX M 1
abbrev Rt := Bool
noncomputable def H (M : Nat) : Hd E Rt := hd0 (X M)
theorem Hok (M : Nat) : (H M).ok (C33 M) M := hd0_ok _
abbrev Qt1 : List Dir := [.r, .r, .l, .r, .k]
abbrev Ht1 := api_Paradigm → Int → Option Rt
abbrev Zt := List Dir → St E → Option Rt
abbrev Ut := St E → Option Rt
noncomputable def s1 (M : Nat) (h1 : Ht1) (pa0_0 : api_Paradigm) (i3_1 : Int) : Option Rt :=
  cond (decide (i3_1 < (pa0_0.fSlots.length : Int)))
   (cond (decide (0 ≤ i3_1) && decide (i3_1 < (pa0_0.fSlots.length : Int)))
     (cond (decide (6 < ((pa0_0.fSlots.getD i3_1.toNat default).length : Int)))
       (some false)
       (h1 pa0_0 (IntKind.i64.wrap (i3_1 + 1))))
     none)
   (some true)
noncomputable def l1 (M : Nat) : Nat → Ht1
  | 0, _, _ => none
  | k + 1, pa0_0, i3_1 => s1 M (l1 M k) pa0_0 i3_1
noncomputable def s (M : Nat) (h1 : Ht1) (pa0_0 : api_Paradigm) : Option Rt :=
  Option.bind (pentaglotref10_Cells M pa0_0) fun r5_4 =>
  cond (decide (16 < (r5_4.length : Int)))
   (some false)
   (cond (decide (4 < (pa0_0.fSlots.length : Int)))
     (some false)
     (h1 pa0_0 0))
end pentaglotref10_Small
noncomputable def pentaglotref10_Small (M : Nat) (pa0_0 : api_Paradigm) : Option Bool :=
  pentaglotref10_Small.s M (pentaglotref10_Small.l1 M M) pa0_0
namespace pentaglotref10_Small
noncomputable def S1 (pa0_0 : api_Paradigm) (i3_1 : Int) : St E :=
  mkSt 28 28 [(1, .one (.ptr 1 0)), (3, .one (.tv (.int .i64 i3_1)))] [(1, .cells [.tv (.str pa0_0.fName), .tv (.sl (.st .api_Dimension) pa0_0.fDimensions), .tv (.sl (.sl (.st .api_Affix)) pa0_0.fSlots)])] 0 [] [] false
noncomputable def K (M : Nat) : Cont E Bool := kRet (C33 M) Try.f33.results.toList rs ex
noncomputable abbrev zA (M : Nat) (ZL : List Dir → Option (Ut)) (q : List Dir) : Ut := zAt (C33 M) (H M) M 0 ZL body plans (K M) q
noncomputable abbrev lA (M : Nat) (ZL : List Dir → Option (Ut)) (q : List Dir) (k : Nat) : Ut := lpAt (C33 M) (H M) M 0 ZL body plans (K M) q k
noncomputable abbrev gA (M : Nat) (Z : Zt) (q : List Dir) : Ut := seg (C33 M) (H M) 0 Z body plans (K M) q
set_option maxRecDepth 100000
theorem g1 (M : Nat) (Z : Zt) (pa0_0 : api_Paradigm) (i3_1 : Int) : gA M Z Qt1 (S1 pa0_0 i3_1) = s1 M
    (fun pa0_0 i3_1 => Z Qt1 (S1 pa0_0 i3_1)) pa0_0 i3_1 := by kernel_rfl
theorem g (M : Nat) (Z : Zt) (pa0_0 : api_Paradigm) : runZ (C33 M) (extZ (C33 M) (H M) 0) Z body plans (start (argHs ps pa0_0) Try.f33.ntmps 28) (K M) = s M
    (fun pa0_0 i3_1 => Z Qt1 (S1 pa0_0 i3_1)) pa0_0 := by kernel_rfl
theorem el1 (M : Nat) (k : Nat) (pa0_0 : api_Paradigm) (i3_1 : Int) : lA M (zlq Qt1 []) Qt1 k (S1 pa0_0 i3_1) = l1 M k pa0_0 i3_1 := by
  induction k generalizing pa0_0 i3_1 with
  | zero => kernel_rfl
  | succ k ih =>
    refine Eq.trans (b := lA M (zlq Qt1 [lA M (zlq Qt1 []) Qt1 k]) Qt1 (k + 1) (S1 pa0_0 i3_1)) (by kernel_rfl) ?_
    refine (seg_loop (Hok M) 0 Qt1 body plans (K M) _ (S1 pa0_0 i3_1) (around_zlq _ _ (by kernel_rfl)) (by kernel_rfl) (by kernel_rfl)).trans ?_
    refine (g1 M _ pa0_0 i3_1).trans ?_
    have x0 := (funext fun pa0_0 => funext fun i3_1 => Eq.trans (b := lA M (zlq Qt1 []) Qt1 k (S1 pa0_0 i3_1)) (by kernel_rfl) (ih pa0_0 i3_1) : (fun pa0_0 i3_1 => zA M (zlq Qt1 [lA M (zlq Qt1 []) Qt1 k]) Qt1 (S1 pa0_0 i3_1)) = l1 M k)
    rw [x0]; rfl
theorem e1 (M : Nat) (pa0_0 : api_Paradigm) (i3_1 : Int) : zA M (zlq Qt1 []) Qt1 (S1 pa0_0 i3_1) = l1 M M pa0_0 i3_1 :=
  Eq.trans (b := lA M (zlq Qt1 []) Qt1 M (S1 pa0_0 i3_1)) (by kernel_rfl) (el1 M M pa0_0 i3_1)
theorem run (M : Nat) (pa0_0 : api_Paradigm) : runF (rs := rs) (C33 M) (X M) M body Try.f33.ntmps 28 Try.f33.results.toList plans ps ex pa0_0 = pentaglotref10_Small M pa0_0 := by
  refine Eq.trans (b := runC (C33 M) (X M) M body plans (start (argHs ps pa0_0) Try.f33.ntmps 28) (K M)) (by kernel_rfl) ?_
  refine (zrun (Hok M) 0 body plans _ (K M) (fun _ => none) fun _ => rfl).symm.trans ?_
  refine (g M _ pa0_0).trans ?_
  have x0 := (funext fun pa0_0 => funext fun i3_1 => Eq.trans (b := zA M (zlq Qt1 []) Qt1 (S1 pa0_0 i3_1)) (by kernel_rfl) (e1 M pa0_0 i3_1) : (fun pa0_0 i3_1 => zA M (fun _ => none) Qt1 (S1 pa0_0 i3_1)) = l1 M M)
  rw [x0]; rfl
noncomputable def sig (M : Nat) : Sig E := { ps := ps, rs := rs, ex := ex, fn := fun x => pentaglotref10_Small M x }
theorem says (M : Nat) : callable Try.prog 33 = true ∧ ∀ x y, (sig M).fn x = some y → Says Try.prog 33 (sig M) x y := by
  refine ⟨by kernel_rfl, fun x y h => ?_⟩
  refine says_of_run (S := sig M) (C := C33 M) (X := X M) (M := M) (q := 28) (plans := plans) (COk_Try) (SigOk_C33 M) (ItOk_C33 M) (by kernel_rfl) (callOk_ext COk_Try (SigOk_C33 M) (ItOk_C33 M) (by kernel_rfl) inl_ok.ok (RSigOk_C33 M) (fun _ => callOk_none) M 1) (Try.func33) (body := body) (by kernel_rfl) (by kernel_rfl) ?_
  exact (run M x).trans h
end pentaglotref10_Small
end Go.Ai.Par
end
set_option linter.unusedVariables false
set_option linter.unusedSectionVars false
noncomputable section
namespace Go.Ai.Par
open Go Go.Ai Go.Proofs
noncomputable def sigs13 (M : Nat) : List (Nat × Sig E) := [(30, pentaglotref10_Valid.sig M), (33, pentaglotref10_Small.sig M)]
noncomputable def rs13 (M : Nat) : List (Nat × Sig E) := []
noncomputable def its13 (M : Nat) : List (Nat × It E) := []
theorem sigs_ok13 (M : Nat) : SigsOk Try.prog (sigs13 M) := SigsOk.cons (pentaglotref10_Valid.says M) (SigsOk.cons (pentaglotref10_Small.says M) (SigsOk.nil))
theorem rs_ok13 (M : Nat) : SigsOk Try.prog (rs13 M) := SigsOk.nil
theorem its_ok13 (M : Nat) : ItsOk Try.prog (its13 M) := ItsOk.nil
noncomputable def C13 (M : Nat) : Ctx E := { ti := fun t => tisE.lookup t, sig := fun f => (sigs13 M).lookup f, it := fun f => (its13 M).lookup f, nt := 12 }
theorem SigOk_C13 (M : Nat) : SigOk Try.prog (C13 M) := sigs_ok13 M
theorem RSigOk_C13 (M : Nat) : SigOk Try.prog ({ ti := fun _ => none, sig := fun f => (rs13 M).lookup f } : Ctx E) := rs_ok13 M
theorem ItOk_C13 (M : Nat) : ItOk Try.prog (C13 M) := (its_ok13 M).ok
namespace pentaglotlaw10_valid
noncomputable def plans : List (Option (Plan Nm)) := [none, none]
noncomputable abbrev body : Code := bodyOf Try.f13
def ps : List (Ty Nm) := [(.sl (.st .api_Letter)), (.st .api_Paradigm)]
def rs : List (Ty Nm) := [.bool]
def ex : List (Option Nat) := [none]
noncomputable def inl : List (Nat × Nat × Nat × Inl Nm) := []
theorem inl_ok : InlsOk Try.prog inl := InlsOk.nil
noncomputable def X (M : Nat) : Ext E Bool := extOf (C13 M) (inlOf inl) (fun f => (rs13 M).lookup f) (fun _ _ _ => none) noX M 1
abbrev Rt := Bool
noncomputable def H (M : Nat) : Hd E Rt := hd0 (X M)
theorem Hok (M : Nat) : (H M).ok (C13 M) M := hd0_ok _
abbrev Zt := List Dir → St E → Option Rt
abbrev Ut := St E → Option Rt
noncomputable def s (M : Nat) (aa0_0 : (List api_Letter)) (pa1_0 : api_Paradigm) : Option Rt :=
  Option.bind (pentaglotref10_Valid M aa0_0 pa1_0) fun r7_1 =>
  cond (r7_1)
   (Option.bind (pentaglotref10_Small M pa1_0) fun r10_2 =>
    some r10_2)
   (some false)
end pentaglotlaw10_valid
noncomputable def pentaglotlaw10_valid (M : Nat) (aa0_0 : (List api_Letter)) (pa1_0 : api_Paradigm) : Option Bool :=
  pentaglotlaw10_valid.s M aa0_0 pa1_0
namespace pentaglotlaw10_valid
noncomputable def K (M : Nat) : Cont E Bool := kRet (C13 M) Try.f13.results.toList rs ex
set_option maxRecDepth 100000
theorem g (M : Nat) (Z : Zt) (aa0_0 : (List api_Letter)) (pa1_0 : api_Paradigm) : runZ (C13 M) (extZ (C13 M) (H M) 0) Z body plans (start (argHs ps (aa0_0, pa1_0)) Try.f13.ntmps 12) (K M) = s M aa0_0 pa1_0 := by kernel_rfl
theorem run (M : Nat) (aa0_0 : (List api_Letter)) (pa1_0 : api_Paradigm) : runF (rs := rs) (C13 M) (X M) M body Try.f13.ntmps 12 Try.f13.results.toList plans ps ex (aa0_0, pa1_0) = pentaglotlaw10_valid M aa0_0 pa1_0 := by
  refine Eq.trans (b := runC (C13 M) (X M) M body plans (start (argHs ps (aa0_0, pa1_0)) Try.f13.ntmps 12) (K M)) (by kernel_rfl) ?_
  refine (zrun (Hok M) 0 body plans _ (K M) (fun _ => none) fun _ => rfl).symm.trans ?_
  refine (g M _ aa0_0 pa1_0).trans ?_
  rfl
noncomputable def sig (M : Nat) : Sig E := { ps := ps, rs := rs, ex := ex, fn := fun x => pentaglotlaw10_valid M x.1 x.2 }
theorem says (M : Nat) : callable Try.prog 13 = true ∧ ∀ x y, (sig M).fn x = some y → Says Try.prog 13 (sig M) x y := by
  refine ⟨by kernel_rfl, fun x y h => ?_⟩
  refine says_of_run (S := sig M) (C := C13 M) (X := X M) (M := M) (q := 12) (plans := plans) (COk_Try) (SigOk_C13 M) (ItOk_C13 M) (by kernel_rfl) (callOk_ext COk_Try (SigOk_C13 M) (ItOk_C13 M) (by kernel_rfl) inl_ok.ok (RSigOk_C13 M) (fun _ => callOk_none) M 1) (Try.func13) (body := body) (by kernel_rfl) (by kernel_rfl) ?_
  obtain ⟨aa0_0, pa1_0⟩ := x
  exact (run M aa0_0 pa1_0).trans h
end pentaglotlaw10_valid
end Go.Ai.Par
end
namespace Go.Ai.Par
open Go Go.Ai
variable {M : Nat}

theorem tot {α : Type} {x : Option α} (d : α) (h : ∃ r, x = some r) : x = some (x.getD d) := by
  obtain ⟨r, rfl⟩ := h
  rfl

/-! ### Alphabets and words: that they answer -/
theorem ref06_Index_tot (hM : 1048576 < M) {a : List api_Letter} (hl : a.length ≤ 1048576) (r : Int) : ∃ n, pentaglotref06_Index M a r = some n ∧ n < (a.length : Int) := by
  refine ⟨fstIdx (fun x : api_Letter => decide (x.fRune = r)) a 0, ?_, fstIdx_lt _ _⟩
  exact overI (xs := a) (f := fun k i (_ : Unit) => pentaglotref06_Index.l1 M k a r i) (g := fun i t _ => some (fstIdx (fun x : api_Letter => decide (x.fRune = r)) t i)) (fun k _ => by
    simp only [pentaglotref06_Index.l1, pentaglotref06_Index.s1, ↓cneg (Int.lt_irrefl _), fstIdx]) (fun k i x t _ hi hx _ _ ih => by
    have ih := ih ()
    simp (disch := omega) only [pentaglotref06_Index.l1, pentaglotref06_Index.s1, ↓cpos, ↓cpos2, Int.toNat_natCast, hx, wsucc, ih, fstIdx]
    cases decide (x.fRune = r) <;> rfl) (by omega) ()

theorem ref06_code_tot (r : Int) : ∃ b, pentaglotref06_code M r = some b := by
  unfold pentaglotref06_code pentaglotref06_code.s
  by_cases h1 : 32 < r
  · rw [cpos h1]
    by_cases h2 : r < 55296
    · rw [cpos h2]; exact ⟨_, rfl⟩
    · rw [cneg h2]
      by_cases h3 : 57343 < r
      · rw [cpos h3]; exact ⟨_, rfl⟩
      · rw [cneg h3]; exact ⟨_, rfl⟩
  · rw [cneg h1]; exact ⟨_, rfl⟩

theorem ref06_Proper_tot (hM : 1048576 < M) {a : List api_Letter} : ∃ b, pentaglotref06_Proper M a = some b := by
  unfold pentaglotref06_Proper pentaglotref06_Proper.s
  by_cases h : 65 < (a.length : Int)
  · rw [cpos h]; exact ⟨_, rfl⟩
  · rw [cneg h]
    have key : ∀ (d k i : Nat), i + d = a.length → d < k → ∃ b, pentaglotref06_Proper.l1 M k a i = some b := by
      intro d
      induction d with
      | zero =>
        intro k i hi hk
        obtain ⟨k, rfl⟩ := Nat.exists_eq_succ_of_ne_zero (by omega : k ≠ 0)
        simp (disch := omega) only [Nat.succ_eq_add_one, pentaglotref06_Proper.l1, pentaglotref06_Proper.s1, ↓cneg]
        exact ⟨_, rfl⟩
      | succ d ih =>
        intro k i hi hk
        obtain ⟨k, rfl⟩ := Nat.exists_eq_succ_of_ne_zero (by omega : k ≠ 0)
        obtain ⟨b, hb⟩ := ref06_code_tot (M := M) (a.getD i default).fRune
        obtain ⟨n, hn, _⟩ := ref06_Index_tot hM (a := a.take i) (by rw [List.length_take]; omega) (a.getD i default).fRune
        simp (disch := omega) only [Nat.succ_eq_add_one, pentaglotref06_Proper.l1, pentaglotref06_Proper.s1, ↓cpos, ↓cpos2, Int.toNat_natCast, hb, hn, Option.bind_some, wsucc]
        cases b with
        | false => exact ⟨_, rfl⟩
        | true =>
          simp only [Bool.not_true, cond_false]
          by_cases h0 : 0 ≤ n
          · rw [cpos h0]; exact ⟨_, rfl⟩
          · rw [cneg h0]; exact ih k (i + 1) (by omega) (by omega)
    exact key a.length M 0 (by omega) (by omega)

theorem ref10_Alphabet_tot (hM : 1048576 < M) {a : List api_Letter} : ∃ b, pentaglotref10_Alphabet M a = some b := by
  unfold pentaglotref10_Alphabet pentaglotref10_Alphabet.s
  by_cases h1 : 1 ≤ (a.length : Int)
  · rw [cpos h1]
    by_cases h2 : (a.length : Int) ≤ 64
    · rw [cpos h2]
      obtain ⟨b, hb⟩ := ref06_Proper_tot hM (a := a)
      rw [hb]; exact ⟨_, rfl⟩
    · rw [cneg h2]; exact ⟨_, rfl⟩
  · rw [cneg h1]; exact ⟨_, rfl⟩

theorem ref06_Over_tot (hM : 1048576 < M) {a : List api_Letter} (ha : a.length ≤ 1048576) {s : List UInt8} (hs : s.length ≤ 1048576) : ∃ r, pentaglotref06_Over M a s = some r := by
  have key : ∀ (q k p : Nat) (out : List Int) (back : List UInt8), s.length - p ≤ q → q < k → out.length ≤ p → back.length ≤ 4 * p → out.length ≤ 1048576 → back.length ≤ 4194304 → ∃ r, pentaglotref06_Over.l1 M k a s out back p = some r := by
    intro q
    induction q with
    | zero =>
      intro k p out back h hk ho hb _ _
      obtain ⟨k, rfl⟩ := Nat.exists_eq_succ_of_ne_zero (by omega : k ≠ 0)
      simp (disch := omega) only [Nat.succ_eq_add_one, pentaglotref06_Over.l1, pentaglotref06_Over.s1, ↓cneg]
      exact ⟨_, rfl⟩
    | succ q ih =>
      intro k p out back h hk ho hb ho2 hb2
      obtain ⟨k, rfl⟩ := Nat.exists_eq_succ_of_ne_zero (by omega : k ≠ 0)
      simp only [Nat.succ_eq_add_one, pentaglotref06_Over.l1, pentaglotref06_Over.s1]
      by_cases hp : p < s.length
      · rw [cpos hp]
        have hd := dec_pos s p
        have he := enc_length ((dec s p).1 : Int)
        obtain ⟨n, hn, _⟩ := ref06_Index_tot hM ha ((dec s p).1 : Int)
        rw [hn, Option.bind_some]
        by_cases h0 : n < 0
        · rw [cpos h0]; exact ⟨_, rfl⟩
        · rw [cneg h0, cpos (by simp only [len, len0]; omega), cpos (by omega)]
          exact ih k _ _ _ (by omega) (by omega) (by simp; omega) (by simp; omega) (by simp; omega) (by simp; omega)
      · rw [cneg hp]; exact ⟨_, rfl⟩
  exact key s.length M 0 [] [] (by omega) (by omega) (by simp) (by simp) (by simp) (by simp)

theorem ref10_Word_tot (hM : 1048576 < M) {a : List api_Letter} (ha : a.length ≤ 1048576) {s : List UInt8} (hs : s.length ≤ 1048576) : ∃ b, pentaglotref10_Word M a s = some b := by
  obtain ⟨r, hr⟩ := ref06_Over_tot hM ha hs
  unfold pentaglotref10_Word pentaglotref10_Word.s
  rw [hr, Option.bind_some]
  cases r.2 <;> exact ⟨_, rfl⟩

/-! ### Valid paradigms -/
noncomputable def affB (M : Nat) (a : List api_Letter) (x : api_Affix) : Bool := isValid x.fWhen && ((pentaglotref10_Word M a x.fPrefix).getD false && (pentaglotref10_Word M a x.fSuffix).getD false)
noncomputable def slotB (M : Nat) (a : List api_Letter) (s : List api_Affix) : Bool := decide (s.length ≤ 64) && s.all (affB M a)
noncomputable def validB (M : Nat) (a : List api_Letter) (p : api_Paradigm) : Bool := (pentaglotref10_Alphabet M a).getD false && (isName p.fName && (dimsOk p.fDimensions && (decide (p.fSlots.length ≤ 8) && p.fSlots.all (slotB M a))))

theorem ref10_Valid_eq (hM : 1048576 < M) {a : List api_Letter} (ha : a.length ≤ 1048576) {p : api_Paradigm} (hn : p.fName.length ≤ 1048576) (hd : okDims p.fDimensions) (hs : okSlots p.fSlots) : pentaglotref10_Valid M a p = some (validB M a p) := by
  unfold pentaglotref10_Valid pentaglotref10_Valid.s validB
  rw [tot false (ref10_Alphabet_tot hM (a := a)), ref02_Name_eq hM hn, ref02_Dimensions_eq hM hd]
  simp only [Option.bind_some, Option.getD_some, cnot]
  cases (pentaglotref10_Alphabet M a).getD false with
  | false => rfl
  | true =>
    cases isName p.fName with
    | false => rfl
    | true =>
      cases dimsOk p.fDimensions with
      | false => rfl
      | true =>
        simp only [cond_true, Bool.true_and]
        by_cases h8 : p.fSlots.length ≤ 8
        · rw [cneg (by omega)]
          simp only [h8, decide_true, Bool.true_and]
          have inner : ∀ (h1 : List api_Letter → api_Paradigm → Int → Option Bool) (i : Nat) (s : List api_Affix), i < p.fSlots.length → p.fSlots.getD i default = s → pentaglotref10_Valid.l2 M h1 M a i p 0 = cond (s.all (affB M a)) (h1 a p ((i + 1 : Nat) : Int)) (some false) := by
            intro h1 i s hi hsi
            obtain ⟨hl, hx⟩ := hs.2 s (by rw [← hsi]; exact getD_mem hi)
            exact over (xs := s) (f := fun k j (_ : Unit) => pentaglotref10_Valid.l2 M h1 k a i p j) (g := fun t _ => cond (t.all (affB M a)) (h1 a p ((i + 1 : Nat) : Int)) (some false)) (fun k _ => by
              simp (disch := omega) only [pentaglotref10_Valid.l2, pentaglotref10_Valid.s2, Int.toNat_natCast, ↓cpos2, hsi, ↓cneg (Int.lt_irrefl _), List.all_nil, cond_true, wsucc]) (fun k j x t _ hj hxj ih => by
              have ih := ih ()
              obtain ⟨a1, a2, a3, a4⟩ := hx x (by rw [← hxj]; exact getD_mem hj)
              simp (disch := omega) only [pentaglotref10_Valid.l2, pentaglotref10_Valid.s2, Int.toNat_natCast, ↓cpos, ↓cpos2, hsi, hxj, ref02_Valid_eq hM a1, Option.bind_some, wsucc, ih, cnot, List.all_cons]
              rw [tot false (ref10_Word_tot hM ha a3), tot false (ref10_Word_tot hM ha a4)]
              simp only [Option.bind_some, affB, Option.getD_some]
              cases isValid x.fWhen <;> cases (pentaglotref10_Word M a x.fPrefix).getD false <;> cases (pentaglotref10_Word M a x.fSuffix).getD false <;> rfl) (k := M) (by omega) ()
          exact over (xs := p.fSlots) (f := fun k i (_ : Unit) => pentaglotref10_Valid.l1 M k a p i) (g := fun t _ => some (t.all (slotB M a))) (fun k _ => by
            simp only [pentaglotref10_Valid.l1, pentaglotref10_Valid.s1, ↓cneg (Int.lt_irrefl _), List.all_nil]) (fun k i s t _ hi hsi ih => by
            have ih := ih ()
            simp (disch := omega) only [pentaglotref10_Valid.l1, pentaglotref10_Valid.s1, Int.toNat_natCast, ↓cpos, ↓cpos2, hsi, inner _ i s hi hsi, ih, List.all_cons, slotB]
            by_cases h64 : s.length ≤ 64
            · rw [cneg (by omega)]
              simp only [h64, decide_true, Bool.true_and]
              cases s.all (affB M a) <;> rfl
            · rw [cpos (by omega)]; simp [h64]) (k := M) (by omega) ()
        · rw [cpos (by omega)]; simp [h8]

def smallB (p : api_Paradigm) : Bool := decide (count p.fDimensions ≤ 16) && (decide (p.fSlots.length ≤ 4) && p.fSlots.all fun s => decide (s.length ≤ 6))

theorem ref10_Small_eq (hM : 1048576 < M) {p : api_Paradigm} (hd : okDims p.fDimensions) : pentaglotref10_Small M p = some (smallB p) := by
  unfold pentaglotref10_Small pentaglotref10_Small.s smallB
  rw [ref10_Cells_eq hM hd, Option.bind_some, cells_length]
  by_cases h1 : count p.fDimensions ≤ 16
  · rw [cneg (by omega)]
    by_cases h2 : p.fSlots.length ≤ 4
    · rw [cneg (by omega)]
      simp only [h1, h2, decide_true, Bool.true_and]
      exact over (xs := p.fSlots) (f := fun k i (_ : Unit) => pentaglotref10_Small.l1 M k p i) (g := fun t _ => some (t.all fun s => decide (s.length ≤ 6))) (fun k _ => by
        simp only [pentaglotref10_Small.l1, pentaglotref10_Small.s1, ↓cneg (Int.lt_irrefl _), List.all_nil]) (fun k i s t _ hi hsi ih => by
        have ih := ih ()
        simp (disch := omega) only [pentaglotref10_Small.l1, pentaglotref10_Small.s1, Int.toNat_natCast, ↓cpos, ↓cpos2, hsi, ih, List.all_cons, wsucc]
        by_cases h6 : s.length ≤ 6
        · rw [cneg (by omega)]; simp [h6]
        · rw [cpos (by omega)]; simp [h6]) (k := M) (by omega) ()
    · rw [cpos (by omega)]; simp [h2]
  · rw [cpos (by omega)]; simp [h1]

/-- The size of what is read, as the laws need it. -/
structure OkP (p : api_Paradigm) : Prop where
  name : p.fName.length ≤ 1048576
  dims : okDims p.fDimensions
  slots : okSlots p.fSlots
  size : szS p.fSlots ≤ 1048576

noncomputable def okB (M : Nat) (a : List api_Letter) (p : api_Paradigm) : Bool := validB M a p && smallB p

theorem law10_valid_eq (hM : 1048576 < M) {a : List api_Letter} (ha : a.length ≤ 1048576) {p : api_Paradigm} (hp : OkP p) : pentaglotlaw10_valid M a p = some (okB M a p) := by
  unfold pentaglotlaw10_valid pentaglotlaw10_valid.s okB
  rw [ref10_Valid_eq hM ha hp.name hp.dims hp.slots, Option.bind_some]
  cases validB M a p with
  | false => rfl
  | true => rw [ref10_Small_eq hM hp.dims]; rfl

theorem validB_facts {a : List api_Letter} {p : api_Paradigm} (h : validB M a p = true) : dimsOk p.fDimensions = true ∧ p.fSlots.length ≤ 8 ∧ ascSlots p.fSlots ∧ ∀ s ∈ p.fSlots, s.length ≤ 64 := by
  simp only [validB, Bool.and_eq_true, decide_eq_true_eq, List.all_eq_true, slotB, affB] at h
  obtain ⟨_, _, h1, h2, h3⟩ := h
  exact ⟨h1, h2, fun s hs x hx => (valid_asc ((h3 s hs).2 x hx).1).1, fun s hs => (h3 s hs).1⟩

theorem okB_facts {a : List api_Letter} {p : api_Paradigm} (h : okB M a p = true) : dimsOk p.fDimensions = true ∧ ascSlots p.fSlots ∧ count p.fDimensions ≤ 16 ∧ p.fSlots.length ≤ 4 ∧ ∀ s ∈ p.fSlots, s.length ≤ 6 := by
  simp only [okB, Bool.and_eq_true] at h
  obtain ⟨h1, _, h3, _⟩ := validB_facts h.1
  simp only [smallB, Bool.and_eq_true, decide_eq_true_eq, List.all_eq_true] at h
  exact ⟨h1, h3, h.2.1, h.2.2.1, h.2.2.2⟩

end Go.Ai.Par
set_option linter.unusedVariables false
set_option linter.unusedSectionVars false
noncomputable section
namespace Go.Ai.Par
open Go Go.Ai Go.Proofs
noncomputable def sigs28 (M : Nat) : List (Nat × Sig E) := [(20, paradigm_Merge.sig M), (23, paradigm_Chosen.sig M)]
noncomputable def rs28 (M : Nat) : List (Nat × Sig E) := []
noncomputable def its28 (M : Nat) : List (Nat × It E) := [(54, feature_All_1.it M)]
theorem sigs_ok28 (M : Nat) : SigsOk Try.prog (sigs28 M) := SigsOk.cons (paradigm_Merge.says M) (SigsOk.cons (paradigm_Chosen.says M) (SigsOk.nil))
theorem rs_ok28 (M : Nat) : SigsOk Try.prog (rs28 M) := SigsOk.nil
theorem its_ok28 (M : Nat) : ItsOk Try.prog (its28 M) := ItsOk.cons (feature_All_1.says M) (ItsOk.nil)
noncomputable def C28 (M : Nat) : Ctx E := { ti := fun t => tisE.lookup t, sig := fun f => (sigs28 M).lookup f, it := fun f => (its28 M).lookup f, nt := 85 }
theorem SigOk_C28 (M : Nat) : SigOk Try.prog (C28 M) := sigs_ok28 M
theorem RSigOk_C28 (M : Nat) : SigOk Try.prog ({ ti := fun _ => none, sig := fun f => (rs28 M).lookup f } : Ctx E) := rs_ok28 M
theorem ItOk_C28 (M : Nat) : ItOk Try.prog (C28 M) := (its_ok28 M).ok
namespace paradigm_Unused
noncomputable def plans : List (Option (Plan Nm)) := [none, none, none, some { tmps := [(2, .asis), (3, .asis), (4, .asis), (5, .asis)], boxes := [(2, [.asis, .asis, .asis]), (3, [.asis]), (5, [.asis]), (16, [])] }, none, some { tmps := [(2, .asis), (5, .asis), (6, .asis), (21, .asis), (22, .asis), (23, .asis)], boxes := [(2, [.asis, .asis, .asis]), (5, [.asis]), (3, [.asis]), (16, [])], outs := [(2, .asis), (3, .asis), (4, .asis), (5, .asis)] }, none, none, none, none, none, some { tmps := [(2, .asis), (5, .asis), (6, .asis), (9, .own (100009, 0, 71) (.st .api_Feature)), (10, .asis), (21, .asis), (22, .asis), (23, .asis), (36, .asis), (37, .asis)], boxes := [(2, [.asis, .asis, .asis]), (5, [.asis]), (3, [.asis]), (16, [])], outs := [(2, .asis), (3, .asis), (4, .asis), (5, .asis)] }, none, none, none, none, none, none, none, some { tmps := [(2, .asis), (5, .asis)], boxes := [(2, [.asis, .asis, .asis]), (5, [.asis]), (16, [])] }, none, none, some { tmps := [(2, .asis), (5, .asis), (13, .own (100013, 0, 54) (.st .arr2_Int)), (57, .asis), (58, .asis)], boxes := [(2, [.asis, .asis, .asis]), (5, [.asis]), (16, [])] }, none, none, none, none, some { tmps := [(2, .asis), (5, .asis), (13, .own (100013, 0, 54) (.st .arr2_Int)), (14, .asis), (57, .asis), (58, .asis), (66, .asis), (67, .asis)], boxes := [(2, [.asis, .asis, .asis]), (5, [.asis]), (16, [])] }, none, none, none, none, none, none, none, none]
noncomputable abbrev body : Code := bodyOf Try.f28
def ps : List (Ty Nm) := [(.st .api_Paradigm), (.sl (.sl (.st .api_Feature)))]
def rs : List (Ty Nm) := [(.sl (.st .arr2_Int))]
def ex : List (Option Nat) := [some 54]
noncomputable def inl : List (Nat × Nat × Nat × Inl Nm) := [(0, 19, 35, { off := 85, ntmps := Try.f35.ntmps, body := bodyOf Try.f35, res := Try.f35.results.toList, plans := [] })]
theorem inl_ok : InlsOk Try.prog inl := InlsOk.cons ⟨by kernel_rfl, _, Try.func35, by kernel_rfl, rfl, rfl⟩ (InlsOk.nil)
noncomputable def X (M : Nat) : Ext E (List arr2_Int) := extOf (C28 M) (inlOf inl) (fun f => (rs28 M).lookup f) (fun _ _ _ => none) noX M 2
abbrev Rt := (List arr2_Int)
noncomputable def H (M : Nat) : Hd E Rt := hd0 (X M)
theorem Hok (M : Nat) : (H M).ok (C28 M) M := hd0_ok _
abbrev Qt3 : List Dir := [.r, .r, .l, .r, .k, .L, .k, .r, .k, .L, .r, .r, .l, .k, .r, .r, .r, .k]
abbrev Ht3 := (List (List api_Feature)) → api_Paradigm → ((List api_Feature) × Bool) → Int → (List api_Feature) → (List ((List api_Feature))) → Int → (List (arr2_Int × Bool)) → Option Rt
abbrev Qt2 : List Dir := [.r, .r, .l, .r, .k, .L, .k, .r, .k]
abbrev Ht2 := (List (List api_Feature)) → api_Paradigm → (List api_Feature) → (List ((List api_Feature))) → Int → (List (arr2_Int × Bool)) → Option Rt
abbrev Qt6 : List Dir := [.r, .r, .r, .r, .l, .r, .k, .L, .r, .r, .l, .k, .r, .r, .k]
abbrev Ht6 := (List (arr2_Int × Bool)) → api_Paradigm → Int → (List arr2_Int) → Int → Option Rt
abbrev Qt5 : List Dir := [.r, .r, .r, .r, .l, .r, .k]
abbrev Ht5 := (List (arr2_Int × Bool)) → api_Paradigm → (List arr2_Int) → Int → Option Rt
abbrev Qt4 : List Dir := [.r, .r]
abbrev Ht4 := api_Paradigm → (List (arr2_Int × Bool)) → Option Rt
abbrev Qt1 : List Dir := [.r, .r, .l, .r, .k]
abbrev Ht1 := (List (List api_Feature)) → api_Paradigm → (List ((List api_Feature))) → (List (arr2_Int × Bool)) → Option Rt
abbrev Zt := List Dir → St E → Option Rt
abbrev Ut := St E → Option Rt
noncomputable def s3 (M : Nat) (h2 : Ht2) (h3 : Ht3) (inherenta1_0 : (List (List api_Feature))) (pa0_0 : api_Paradigm) (r31_158 : (List api_Feature) × Bool) (x23_2 : Int) (x900_1 : (List api_Feature)) (xs900_1 : List ((List api_Feature))) (x37_3 : Int) (m16_3 : (List (arr2_Int × Bool))) : Option Rt :=
  cond (decide (x37_3 < (pa0_0.fSlots.length : Int)))
   (Option.bind (paradigm_Chosen M pa0_0 x37_3 r31_158.1) fun r43_162 =>
    cond (r31_158.2)
     (cond (decide (0 ≤ r43_162))
       (h3 inherenta1_0 pa0_0 r31_158 x23_2 x900_1 xs900_1 (IntKind.i64.wrap (x37_3 + 1)) (mput (keyEq (E := E) (.st .arr2_Int)) m16_3 (arr2_Int.mk x37_3 r43_162) true))
       (h3 inherenta1_0 pa0_0 r31_158 x23_2 x900_1 xs900_1 (IntKind.i64.wrap (x37_3 + 1)) m16_3))
     (h3 inherenta1_0 pa0_0 r31_158 x23_2 x900_1 xs900_1 (IntKind.i64.wrap (x37_3 + 1)) m16_3))
   (h2 inherenta1_0 pa0_0 x900_1 xs900_1 (IntKind.i64.wrap (x23_2 + 1)) m16_3)
noncomputable def l3 (M : Nat) (h2 : Ht2) : Nat → Ht3
  | 0, _, _, _, _, _, _, _, _ => none
  | k + 1, inherenta1_0, pa0_0, r31_158, x23_2, x900_1, xs900_1, x37_3, m16_3 => s3 M h2 (l3 M h2 k) inherenta1_0 pa0_0 r31_158 x23_2 x900_1 xs900_1 x37_3 m16_3
noncomputable def s2 (M : Nat) (h1 : Ht1) (h3 : Ht3) (inherenta1_0 : (List (List api_Feature))) (pa0_0 : api_Paradigm) (x900_1 : (List api_Feature)) (xs900_1 : List ((List api_Feature))) (x23_2 : Int) (m16_2 : (List (arr2_Int × Bool))) : Option Rt :=
  cond (decide (x23_2 < (inherenta1_0.length : Int)))
   (cond (decide (0 ≤ x23_2) && decide (x23_2 < (inherenta1_0.length : Int)))
     (Option.bind (paradigm_Merge M pa0_0 x900_1 (inherenta1_0.getD x23_2.toNat default)) fun r31_158 =>
      h3 inherenta1_0 pa0_0 r31_158 x23_2 x900_1 xs900_1 0 m16_2)
     none)
   (h1 inherenta1_0 pa0_0 xs900_1 m16_2)
noncomputable def l2 (M : Nat) (h1 : Ht1) : Nat → Ht2
  | 0, _, _, _, _, _, _ => none
  | k + 1, inherenta1_0, pa0_0, x900_1, xs900_1, x23_2, m16_2 => s2 M h1 (l3 M (l2 M h1 k) M) inherenta1_0 pa0_0 x900_1 xs900_1 x23_2 m16_2
noncomputable def s6 (M : Nat) (h5 : Ht5) (h6 : Ht6) (m16_4 : (List (arr2_Int × Bool))) (pa0_0 : api_Paradigm) (x58_5 : Int) (out13_6 : (List arr2_Int)) (x67_6 : Int) : Option Rt :=
  cond (decide (x67_6 < ((pa0_0.fSlots.getD x58_5.toNat default).length : Int)))
   (cond (!((mget (keyEq (E := E) (.st .arr2_Int)) m16_4 (arr2_Int.mk x58_5 x67_6)).getD false))
     (cond (decide (out13_6.length + ([arr2_Int.mk x58_5 x67_6] : List arr2_Int).length ≤ lim))
       (h6 m16_4 pa0_0 x58_5 (out13_6 ++ [arr2_Int.mk x58_5 x67_6]) (IntKind.i64.wrap (x67_6 + 1)))
       none)
     (h6 m16_4 pa0_0 x58_5 out13_6 (IntKind.i64.wrap (x67_6 + 1))))
   (h5 m16_4 pa0_0 out13_6 (IntKind.i64.wrap (x58_5 + 1)))
noncomputable def l6 (M : Nat) (h5 : Ht5) : Nat → Ht6
  | 0, _, _, _, _, _ => none
  | k + 1, m16_4, pa0_0, x58_5, out13_6, x67_6 => s6 M h5 (l6 M h5 k) m16_4 pa0_0 x58_5 out13_6 x67_6
noncomputable def s5 (M : Nat) (h6 : Ht6) (m16_4 : (List (arr2_Int × Bool))) (pa0_0 : api_Paradigm) (out13_5 : (List arr2_Int)) (x58_5 : Int) : Option Rt :=
  cond (decide (x58_5 < (pa0_0.fSlots.length : Int)))
   (cond (decide (0 ≤ x58_5) && decide (x58_5 < (pa0_0.fSlots.length : Int)))
     (h6 m16_4 pa0_0 x58_5 out13_5 0)
     none)
   (some out13_5)
noncomputable def l5 (M : Nat) : Nat → Ht5
  | 0, _, _, _, _ => none
  | k + 1, m16_4, pa0_0, out13_5, x58_5 => s5 M (l6 M (l5 M k) M) m16_4 pa0_0 out13_5 x58_5
noncomputable def s4 (M : Nat) (h5 : Ht5) (pa0_0 : api_Paradigm) (m16_4 : (List (arr2_Int × Bool))) : Option Rt :=
  h5 m16_4 pa0_0 ([] : (List arr2_Int)) 0
noncomputable def j4 (M : Nat) (pa0_0 : api_Paradigm) (m16_4 : (List (arr2_Int × Bool))) : Option Rt :=
  s4 M (l5 M M) pa0_0 m16_4
noncomputable def s1 (M : Nat) (h2 : Ht2) (h4 : Ht4) (inherenta1_0 : (List (List api_Feature))) (pa0_0 : api_Paradigm) (it0_1 : (List ((List api_Feature)))) (m16_1 : (List (arr2_Int × Bool))) : Option Rt :=
  lcase it0_1
   (h4 pa0_0 m16_1)
   (fun x900_1 xs900_1 =>
    h2 inherenta1_0 pa0_0 x900_1 xs900_1 0 m16_1)
noncomputable def l1 (M : Nat) : Nat → Ht1
  | 0, _, _, _, _ => none
  | k + 1, inherenta1_0, pa0_0, it0_1, m16_1 => s1 M (l2 M (l1 M k) M) (j4 M) inherenta1_0 pa0_0 it0_1 m16_1
noncomputable def s (M : Nat) (h1 : Ht1) (pa0_0 : api_Paradigm) (inherenta1_0 : (List (List api_Feature))) : Option Rt :=
  Option.bind (feature_All_1 M pa0_0.fDimensions) fun ri54_82 =>
  h1 inherenta1_0 pa0_0 ri54_82 ([] : (List (arr2_Int × Bool)))
end paradigm_Unused
noncomputable def paradigm_Unused (M : Nat) (pa0_0 : api_Paradigm) (inherenta1_0 : (List (List api_Feature))) : Option (List arr2_Int) :=
  paradigm_Unused.s M (paradigm_Unused.l1 M M) pa0_0 inherenta1_0
namespace paradigm_Unused
noncomputable def S3 (inherenta1_0 : (List (List api_Feature))) (pa0_0 : api_Paradigm) (r31_158 : (List api_Feature) × Bool) (x23_2 : Int) (x900_1 : (List api_Feature)) (xs900_1 : List ((List api_Feature))) (x37_3 : Int) (m16_3 : (List (arr2_Int × Bool))) : St E :=
  mkSt 85 89 [(2, .one (.ptr 2 0)), (5, .one (.ptr 5 0)), (6, .one (.tv (.sl (.st .api_Feature) x900_1))), (9, .one (.tok (100009, 0, 71) (.st .api_Feature) r31_158.1)), (10, .one (.tv (.bool r31_158.2))), (21, .one (.tv (.sl (.sl (.st .api_Feature)) inherenta1_0))), (22, .one (.tv (.int .i64 (inherenta1_0.length : Int)))), (23, .one (.tv (.int .i64 x23_2))), (36, .one (.tv (.int .i64 (pa0_0.fSlots.length : Int)))), (37, .one (.tv (.int .i64 x37_3)))] [(2, .cells [.tv (.str pa0_0.fName), .tv (.sl (.st .api_Dimension) pa0_0.fDimensions), .tv (.sl (.sl (.st .api_Affix)) pa0_0.fSlots)]), (3, .cells [.tv (.sl (.sl (.st .api_Feature)) inherenta1_0)]), (5, .cells [.mp 16]), (16, .mp (.st .arr2_Int) .bool m16_3)] 85 [(2, .one (.ptr 2 0)), (3, .one (.ptr 3 0)), (4, .one (.tv (.val nilS))), (5, .one (.ptr 5 0))] [⟨[(.sl (.st .api_Feature))], xs900_1⟩] false
noncomputable def S2 (inherenta1_0 : (List (List api_Feature))) (pa0_0 : api_Paradigm) (x900_1 : (List api_Feature)) (xs900_1 : List ((List api_Feature))) (x23_2 : Int) (m16_2 : (List (arr2_Int × Bool))) : St E :=
  mkSt 85 89 [(2, .one (.ptr 2 0)), (5, .one (.ptr 5 0)), (6, .one (.tv (.sl (.st .api_Feature) x900_1))), (21, .one (.tv (.sl (.sl (.st .api_Feature)) inherenta1_0))), (22, .one (.tv (.int .i64 (inherenta1_0.length : Int)))), (23, .one (.tv (.int .i64 x23_2)))] [(2, .cells [.tv (.str pa0_0.fName), .tv (.sl (.st .api_Dimension) pa0_0.fDimensions), .tv (.sl (.sl (.st .api_Affix)) pa0_0.fSlots)]), (3, .cells [.tv (.sl (.sl (.st .api_Feature)) inherenta1_0)]), (5, .cells [.mp 16]), (16, .mp (.st .arr2_Int) .bool m16_2)] 85 [(2, .one (.ptr 2 0)), (3, .one (.ptr 3 0)), (4, .one (.tv (.val nilS))), (5, .one (.ptr 5 0))] [⟨[(.sl (.st .api_Feature))], xs900_1⟩] false
noncomputable def S6 (m16_4 : (List (arr2_Int × Bool))) (pa0_0 : api_Paradigm) (x58_5 : Int) (out13_6 : (List arr2_Int)) (x67_6 : Int) : St E :=
  mkSt 85 89 [(2, .one (.ptr 2 0)), (5, .one (.ptr 5 0)), (13, .one (.tok (100013, 0, 54) (.st .arr2_Int) out13_6)), (14, .one (.tv (.int .i64 x58_5))), (57, .one (.tv (.int .i64 (pa0_0.fSlots.length : Int)))), (58, .one (.tv (.int .i64 x58_5))), (66, .one (.tv (.int .i64 ((pa0_0.fSlots.getD x58_5.toNat default).length : Int)))), (67, .one (.tv (.int .i64 x67_6)))] [(2, .cells [.tv (.str pa0_0.fName), .tv (.sl (.st .api_Dimension) pa0_0.fDimensions), .tv (.sl (.sl (.st .api_Affix)) pa0_0.fSlots)]), (5, .cells [.mp 16]), (16, .mp (.st .arr2_Int) .bool m16_4)] 0 [] [] true
noncomputable def S5 (m16_4 : (List (arr2_Int × Bool))) (pa0_0 : api_Paradigm) (out13_5 : (List arr2_Int)) (x58_5 : Int) : St E :=
  mkSt 85 89 [(2, .one (.ptr 2 0)), (5, .one (.ptr 5 0)), (13, .one (.tok (100013, 0, 54) (.st .arr2_Int) out13_5)), (57, .one (.tv (.int .i64 (pa0_0.fSlots.length : Int)))), (58, .one (.tv (.int .i64 x58_5)))] [(2, .cells [.tv (.str pa0_0.fName), .tv (.sl (.st .api_Dimension) pa0_0.fDimensions), .tv (.sl (.sl (.st .api_Affix)) pa0_0.fSlots)]), (5, .cells [.mp 16]), (16, .mp (.st .arr2_Int) .bool m16_4)] 0 [] [] true
noncomputable def S4 (pa0_0 : api_Paradigm) (m16_4 : (List (arr2_Int × Bool))) : St E :=
  mkSt 85 89 [(2, .one (.ptr 2 0)), (5, .one (.ptr 5 0))] [(2, .cells [.tv (.str pa0_0.fName), .tv (.sl (.st .api_Dimension) pa0_0.fDimensions), .tv (.sl (.sl (.st .api_Affix)) pa0_0.fSlots)]), (5, .cells [.mp 16]), (16, .mp (.st .arr2_Int) .bool m16_4)] 0 [] [] true
noncomputable def S1 (inherenta1_0 : (List (List api_Feature))) (pa0_0 : api_Paradigm) (it0_1 : (List ((List api_Feature)))) (m16_1 : (List (arr2_Int × Bool))) : St E :=
  mkSt 85 89 [(2, .one (.ptr 2 0)), (3, .one (.ptr 3 0)), (4, .one (.tv (.val nilS))), (5, .one (.ptr 5 0))] [(2, .cells [.tv (.str pa0_0.fName), .tv (.sl (.st .api_Dimension) pa0_0.fDimensions), .tv (.sl (.sl (.st .api_Affix)) pa0_0.fSlots)]), (3, .cells [.tv (.sl (.sl (.st .api_Feature)) inherenta1_0)]), (5, .cells [.mp 16]), (16, .mp (.st .arr2_Int) .bool m16_1)] 0 [] [⟨[(.sl (.st .api_Feature))], it0_1⟩] true
noncomputable def K (M : Nat) : Cont E (List arr2_Int) := kRet (C28 M) Try.f28.results.toList rs ex
noncomputable abbrev zA (M : Nat) (ZL : List Dir → Option (Ut)) (q : List Dir) : Ut := zAt (C28 M) (H M) M 0 ZL body plans (K M) q
noncomputable abbrev lA (M : Nat) (ZL : List Dir → Option (Ut)) (q : List Dir) (k : Nat) : Ut := lpAt (C28 M) (H M) M 0 ZL body plans (K M) q k
noncomputable abbrev gA (M : Nat) (Z : Zt) (q : List Dir) : Ut := seg (C28 M) (H M) 0 Z body plans (K M) q
set_option maxRecDepth 100000
theorem g3 (M : Nat) (Z : Zt) (inherenta1_0 : (List (List api_Feature))) (pa0_0 : api_Paradigm) (r31_158 : (List api_Feature) × Bool) (x23_2 : Int) (x900_1 : (List api_Feature)) (xs900_1 : List ((List api_Feature))) (x37_3 : Int) (m16_3 : (List (arr2_Int × Bool))) : gA M Z Qt3 (S3 inherenta1_0 pa0_0 r31_158 x23_2 x900_1 xs900_1 x37_3 m16_3) = s3 M
    (fun inherenta1_0 pa0_0 x900_1 xs900_1 x23_2 m16_2 => Z Qt2 (S2 inherenta1_0 pa0_0 x900_1 xs900_1 x23_2 m16_2))
    (fun inherenta1_0 pa0_0 r31_158 x23_2 x900_1 xs900_1 x37_3 m16_3 => Z Qt3 (S3 inherenta1_0 pa0_0 r31_158 x23_2 x900_1 xs900_1 x37_3 m16_3)) inherenta1_0 pa0_0 r31_158 x23_2 x900_1 xs900_1 x37_3 m16_3 := by kernel_rfl
theorem g2 (M : Nat) (Z : Zt) (inherenta1_0 : (List (List api_Feature))) (pa0_0 : api_Paradigm) (x900_1 : (List api_Feature)) (xs900_1 : List ((List api_Feature))) (x23_2 : Int) (m16_2 : (List (arr2_Int × Bool))) : gA M Z Qt2 (S2 inherenta1_0 pa0_0 x900_1 xs900_1 x23_2 m16_2) = s2 M
    (fun inherenta1_0 pa0_0 it0_1 m16_1 => Z Qt1 (S1 inherenta1_0 pa0_0 it0_1 m16_1))
    (fun inherenta1_0 pa0_0 r31_158 x23_2 x900_1 xs900_1 x37_3 m16_3 => Z Qt3 (S3 inherenta1_0 pa0_0 r31_158 x23_2 x900_1 xs900_1 x37_3 m16_3)) inherenta1_0 pa0_0 x900_1 xs900_1 x23_2 m16_2 := by kernel_rfl
theorem g6 (M : Nat) (Z : Zt) (m16_4 : (List (arr2_Int × Bool))) (pa0_0 : api_Paradigm) (x58_5 : Int) (out13_6 : (List arr2_Int)) (x67_6 : Int) : gA M Z Qt6 (S6 m16_4 pa0_0 x58_5 out13_6 x67_6) = s6 M
    (fun m16_4 pa0_0 out13_5 x58_5 => Z Qt5 (S5 m16_4 pa0_0 out13_5 x58_5))
    (fun m16_4 pa0_0 x58_5 out13_6 x67_6 => Z Qt6 (S6 m16_4 pa0_0 x58_5 out13_6 x67_6)) m16_4 pa0_0 x58_5 out13_6 x67_6 := by kernel_rfl
theorem g5 (M : Nat) (Z : Zt) (m16_4 : (List (arr2_Int × Bool))) (pa0_0 : api_Paradigm) (out13_5 : (List arr2_Int)) (x58_5 : Int) : gA M Z Qt5 (S5 m16_4 pa0_0 out13_5 x58_5) = s5 M
    (fun m16_4 pa0_0 x58_5 out13_6 x67_6 => Z Qt6 (S6 m16_4 pa0_0 x58_5 out13_6 x67_6)) m16_4 pa0_0 out13_5 x58_5 := by kernel_rfl
theorem g4 (M : Nat) (Z : Zt) (pa0_0 : api_Paradigm) (m16_4 : (List (arr2_Int × Bool))) : gA M Z Qt4 (S4 pa0_0 m16_4) = s4 M
    (fun m16_4 pa0_0 out13_5 x58_5 => Z Qt5 (S5 m16_4 pa0_0 out13_5 x58_5)) pa0_0 m16_4 := by kernel_rfl
theorem g1 (M : Nat) (Z : Zt) (inherenta1_0 : (List (List api_Feature))) (pa0_0 : api_Paradigm) (it0_1 : (List ((List api_Feature)))) (m16_1 : (List (arr2_Int × Bool))) : gA M Z Qt1 (S1 inherenta1_0 pa0_0 it0_1 m16_1) = s1 M
    (fun inherenta1_0 pa0_0 x900_1 xs900_1 x23_2 m16_2 => Z Qt2 (S2 inherenta1_0 pa0_0 x900_1 xs900_1 x23_2 m16_2))
    (fun pa0_0 m16_4 => Z Qt4 (S4 pa0_0 m16_4)) inherenta1_0 pa0_0 it0_1 m16_1 := by kernel_rfl
theorem g (M : Nat) (Z : Zt) (pa0_0 : api_Paradigm) (inherenta1_0 : (List (List api_Feature))) : runZ (C28 M) (extZ (C28 M) (H M) 0) Z body plans (start (argHs ps (pa0_0, inherenta1_0)) Try.f28.ntmps 89) (K M) = s M
    (fun inherenta1_0 pa0_0 it0_1 m16_1 => Z Qt1 (S1 inherenta1_0 pa0_0 it0_1 m16_1)) pa0_0 inherenta1_0 := by kernel_rfl
theorem el3 (M : Nat) (Z1 : Ut) (Z2 : Ut) (h2 : Ht2) (hZ2 : ∀ (inherenta1_0 : (List (List api_Feature))) (pa0_0 : api_Paradigm) (x900_1 : (List api_Feature)) (xs900_1 : List ((List api_Feature))) (x23_2 : Int) (m16_2 : (List (arr2_Int × Bool))), Z2 (S2 inherenta1_0 pa0_0 x900_1 xs900_1 x23_2 m16_2) = h2 inherenta1_0 pa0_0 x900_1 xs900_1 x23_2 m16_2) (k : Nat) (inherenta1_0 : (List (List api_Feature))) (pa0_0 : api_Paradigm) (r31_158 : (List api_Feature) × Bool) (x23_2 : Int) (x900_1 : (List api_Feature)) (xs900_1 : List ((List api_Feature))) (x37_3 : Int) (m16_3 : (List (arr2_Int × Bool))) : lA M (zlq Qt3 [Z1, Z2]) Qt3 k (S3 inherenta1_0 pa0_0 r31_158 x23_2 x900_1 xs900_1 x37_3 m16_3) = l3 M h2 k inherenta1_0 pa0_0 r31_158 x23_2 x900_1 xs900_1 x37_3 m16_3 := by
  induction k generalizing inherenta1_0 pa0_0 r31_158 x23_2 x900_1 xs900_1 x37_3 m16_3 with
  | zero => kernel_rfl
  | succ k ih =>
    refine Eq.trans (b := lA M (zlq Qt3 [Z1, Z2, lA M (zlq Qt3 [Z1, Z2]) Qt3 k]) Qt3 (k + 1) (S3 inherenta1_0 pa0_0 r31_158 x23_2 x900_1 xs900_1 x37_3 m16_3)) (by kernel_rfl) ?_
    refine (seg_loop (Hok M) 0 Qt3 body plans (K M) _ (S3 inherenta1_0 pa0_0 r31_158 x23_2 x900_1 xs900_1 x37_3 m16_3) (around_zlq _ _ (by kernel_rfl)) (by kernel_rfl) (by kernel_rfl)).trans ?_
    refine (g3 M _ inherenta1_0 pa0_0 r31_158 x23_2 x900_1 xs900_1 x37_3 m16_3).trans ?_
    have x0 := (funext fun inherenta1_0 => funext fun pa0_0 => funext fun x900_1 => funext fun xs900_1 => funext fun x23_2 => funext fun m16_2 => Eq.trans (b := Z2 (S2 inherenta1_0 pa0_0 x900_1 xs900_1 x23_2 m16_2)) (by kernel_rfl) (hZ2 inherenta1_0 pa0_0 x900_1 xs900_1 x23_2 m16_2) : (fun inherenta1_0 pa0_0 x900_1 xs900_1 x23_2 m16_2 => zA M (zlq Qt3 [Z1, Z2, lA M (zlq Qt3 [Z1, Z2]) Qt3 k]) Qt2 (S2 inherenta1_0 pa0_0 x900_1 xs900_1 x23_2 m16_2)) = h2)
    have x1 := (funext fun inherenta1_0 => funext fun pa0_0 => funext fun r31_158 => funext fun x23_2 => funext fun x900_1 => funext fun xs900_1 => funext fun x37_3 => funext fun m16_3 => Eq.trans (b := lA M (zlq Qt3 [Z1, Z2]) Qt3 k (S3 inherenta1_0 pa0_0 r31_158 x23_2 x900_1 xs900_1 x37_3 m16_3)) (by kernel_rfl) (ih inherenta1_0 pa0_0 r31_158 x23_2 x900_1 xs900_1 x37_3 m16_3) : (fun inherenta1_0 pa0_0 r31_158 x23_2 x900_1 xs900_1 x37_3 m16_3 => zA M (zlq Qt3 [Z1, Z2, lA M (zlq Qt3 [Z1, Z2]) Qt3 k]) Qt3 (S3 inherenta1_0 pa0_0 r31_158 x23_2 x900_1 xs900_1 x37_3 m16_3)) = l3 M h2 k)
    rw [x0, x1]; rfl
theorem e3 (M : Nat) (Z1 : Ut) (Z2 : Ut) (h2 : Ht2) (hZ2 : ∀ (inherenta1_0 : (List (List api_Feature))) (pa0_0 : api_Paradigm) (x900_1 : (List api_Feature)) (xs900_1 : List ((List api_Feature))) (x23_2 : Int) (m16_2 : (List (arr2_Int × Bool))), Z2 (S2 inherenta1_0 pa0_0 x900_1 xs900_1 x23_2 m16_2) = h2 inherenta1_0 pa0_0 x900_1 xs900_1 x23_2 m16_2) (inherenta1_0 : (List (List api_Feature))) (pa0_0 : api_Paradigm) (r31_158 : (List api_Feature) × Bool) (x23_2 : Int) (x900_1 : (List api_Feature)) (xs900_1 : List ((List api_Feature))) (x37_3 : Int) (m16_3 : (List (arr2_Int × Bool))) : zA M (zlq Qt3 [Z1, Z2]) Qt3 (S3 inherenta1_0 pa0_0 r31_158 x23_2 x900_1 xs900_1 x37_3 m16_3) = l3 M h2 M inherenta1_0 pa0_0 r31_158 x23_2 x900_1 xs900_1 x37_3 m16_3 :=
  Eq.trans (b := lA M (zlq Qt3 [Z1, Z2]) Qt3 M (S3 inherenta1_0 pa0_0 r31_158 x23_2 x900_1 xs900_1 x37_3 m16_3)) (by kernel_rfl) (el3 M Z1 Z2 h2 hZ2 M inherenta1_0 pa0_0 r31_158 x23_2 x900_1 xs900_1 x37_3 m16_3)
theorem el2 (M : Nat) (Z1 : Ut) (h1 : Ht1) (hZ1 : ∀ (inherenta1_0 : (List (List api_Feature))) (pa0_0 : api_Paradigm) (it0_1 : (List ((List api_Feature)))) (m16_1 : (List (arr2_Int × Bool))), Z1 (S1 inherenta1_0 pa0_0 it0_1 m16_1) = h1 inherenta1_0 pa0_0 it0_1 m16_1) (k : Nat) (inherenta1_0 : (List (List api_Feature))) (pa0_0 : api_Paradigm) (x900_1 : (List api_Feature)) (xs900_1 : List ((List api_Feature))) (x23_2 : Int) (m16_2 : (List (arr2_Int × Bool))) : lA M (zlq Qt2 [Z1]) Qt2 k (S2 inherenta1_0 pa0_0 x900_1 xs900_1 x23_2 m16_2) = l2 M h1 k inherenta1_0 pa0_0 x900_1 xs900_1 x23_2 m16_2 := by
  induction k generalizing inherenta1_0 pa0_0 x900_1 xs900_1 x23_2 m16_2 with
  | zero => kernel_rfl
  | succ k ih =>
    refine Eq.trans (b := lA M (zlq Qt2 [Z1, lA M (zlq Qt2 [Z1]) Qt2 k]) Qt2 (k + 1) (S2 inherenta1_0 pa0_0 x900_1 xs900_1 x23_2 m16_2)) (by kernel_rfl) ?_
    refine (seg_loop (Hok M) 0 Qt2 body plans (K M) _ (S2 inherenta1_0 pa0_0 x900_1 xs900_1 x23_2 m16_2) (around_zlq _ _ (by kernel_rfl)) (by kernel_rfl) (by kernel_rfl)).trans ?_
    refine (g2 M _ inherenta1_0 pa0_0 x900_1 xs900_1 x23_2 m16_2).trans ?_
    have x0 := (funext fun inherenta1_0 => funext fun pa0_0 => funext fun it0_1 => funext fun m16_1 => Eq.trans (b := Z1 (S1 inherenta1_0 pa0_0 it0_1 m16_1)) (by kernel_rfl) (hZ1 inherenta1_0 pa0_0 it0_1 m16_1) : (fun inherenta1_0 pa0_0 it0_1 m16_1 => zA M (zlq Qt2 [Z1, lA M (zlq Qt2 [Z1]) Qt2 k]) Qt1 (S1 inherenta1_0 pa0_0 it0_1 m16_1)) = h1)
    have x1 := (funext fun inherenta1_0 => funext fun pa0_0 => funext fun r31_158 => funext fun x23_2 => funext fun x900_1 => funext fun xs900_1 => funext fun x37_3 => funext fun m16_3 => Eq.trans (b := zA M (zlq Qt3 [Z1, (lA M (zlq Qt2 [Z1]) Qt2 k)]) Qt3 (S3 inherenta1_0 pa0_0 r31_158 x23_2 x900_1 xs900_1 x37_3 m16_3)) (by kernel_rfl) (e3 M Z1 (lA M (zlq Qt2 [Z1]) Qt2 k) (l2 M h1 k) (fun inherenta1_0 pa0_0 x900_1 xs900_1 x23_2 m16_2 => ih inherenta1_0 pa0_0 x900_1 xs900_1 x23_2 m16_2) inherenta1_0 pa0_0 r31_158 x23_2 x900_1 xs900_1 x37_3 m16_3) : (fun inherenta1_0 pa0_0 r31_158 x23_2 x900_1 xs900_1 x37_3 m16_3 => zA M (zlq Qt2 [Z1, lA M (zlq Qt2 [Z1]) Qt2 k]) Qt3 (S3 inherenta1_0 pa0_0 r31_158 x23_2 x900_1 xs900_1 x37_3 m16_3)) = l3 M (l2 M h1 k) M)
    rw [x0, x1]; rfl
theorem e2 (M : Nat) (Z1 : Ut) (h1 : Ht1) (hZ1 : ∀ (inherenta1_0 : (List (List api_Feature))) (pa0_0 : api_Paradigm) (it0_1 : (List ((List api_Feature)))) (m16_1 : (List (arr2_Int × Bool))), Z1 (S1 inherenta1_0 pa0_0 it0_1 m16_1) = h1 inherenta1_0 pa0_0 it0_1 m16_1) (inherenta1_0 : (List (List api_Feature))) (pa0_0 : api_Paradigm) (x900_1 : (List api_Feature)) (xs900_1 : List ((List api_Feature))) (x23_2 : Int) (m16_2 : (List (arr2_Int × Bool))) : zA M (zlq Qt2 [Z1]) Qt2 (S2 inherenta1_0 pa0_0 x900_1 xs900_1 x23_2 m16_2) = l2 M h1 M inherenta1_0 pa0_0 x900_1 xs900_1 x23_2 m16_2 :=
  Eq.trans (b := lA M (zlq Qt2 [Z1]) Qt2 M (S2 inherenta1_0 pa0_0 x900_1 xs900_1 x23_2 m16_2)) (by kernel_rfl) (el2 M Z1 h1 hZ1 M inherenta1_0 pa0_0 x900_1 xs900_1 x23_2 m16_2)
theorem el6 (M : Nat) (Z5 : Ut) (h5 : Ht5) (hZ5 : ∀ (m16_4 : (List (arr2_Int × Bool))) (pa0_0 : api_Paradigm) (out13_5 : (List arr2_Int)) (x58_5 : Int), Z5 (S5 m16_4 pa0_0 out13_5 x58_5) = h5 m16_4 pa0_0 out13_5 x58_5) (k : Nat) (m16_4 : (List (arr2_Int × Bool))) (pa0_0 : api_Paradigm) (x58_5 : Int) (out13_6 : (List arr2_Int)) (x67_6 : Int) : lA M (zlq Qt6 [Z5]) Qt6 k (S6 m16_4 pa0_0 x58_5 out13_6 x67_6) = l6 M h5 k m16_4 pa0_0 x58_5 out13_6 x67_6 := by
  induction k generalizing m16_4 pa0_0 x58_5 out13_6 x67_6 with
  | zero => kernel_rfl
  | succ k ih =>
    refine Eq.trans (b := lA M (zlq Qt6 [Z5, lA M (zlq Qt6 [Z5]) Qt6 k]) Qt6 (k + 1) (S6 m16_4 pa0_0 x58_5 out13_6 x67_6)) (by kernel_rfl) ?_
    refine (seg_loop (Hok M) 0 Qt6 body plans (K M) _ (S6 m16_4 pa0_0 x58_5 out13_6 x67_6) (around_zlq _ _ (by kernel_rfl)) (by kernel_rfl) (by kernel_rfl)).trans ?_
    refine (g6 M _ m16_4 pa0_0 x58_5 out13_6 x67_6).trans ?_
    have x0 := (funext fun m16_4 => funext fun pa0_0 => funext fun out13_5 => funext fun x58_5 => Eq.trans (b := Z5 (S5 m16_4 pa0_0 out13_5 x58_5)) (by kernel_rfl) (hZ5 m16_4 pa0_0 out13_5 x58_5) : (fun m16_4 pa0_0 out13_5 x58_5 => zA M (zlq Qt6 [Z5, lA M (zlq Qt6 [Z5]) Qt6 k]) Qt5 (S5 m16_4 pa0_0 out13_5 x58_5)) = h5)
    have x1 := (funext fun m16_4 => funext fun pa0_0 => funext fun x58_5 => funext fun out13_6 => funext fun x67_6 => Eq.trans (b := lA M (zlq Qt6 [Z5]) Qt6 k (S6 m16_4 pa0_0 x58_5 out13_6 x67_6)) (by kernel_rfl) (ih m16_4 pa0_0 x58_5 out13_6 x67_6) : (fun m16_4 pa0_0 x58_5 out13_6 x67_6 => zA M (zlq Qt6 [Z5, lA M (zlq Qt6 [Z5]) Qt6 k]) Qt6 (S6 m16_4 pa0_0 x58_5 out13_6 x67_6)) = l6 M h5 k)
    rw [x0, x1]; rfl
theorem e6 (M : Nat) (Z5 : Ut) (h5 : Ht5) (hZ5 : ∀ (m16_4 : (List (arr2_Int × Bool))) (pa0_0 : api_Paradigm) (out13_5 : (List arr2_Int)) (x58_5 : Int), Z5 (S5 m16_4 pa0_0 out13_5 x58_5) = h5 m16_4 pa0_0 out13_5 x58_5) (m16_4 : (List (arr2_Int × Bool))) (pa0_0 : api_Paradigm) (x58_5 : Int) (out13_6 : (List arr2_Int)) (x67_6 : Int) : zA M (zlq Qt6 [Z5]) Qt6 (S6 m16_4 pa0_0 x58_5 out13_6 x67_6) = l6 M h5 M m16_4 pa0_0 x58_5 out13_6 x67_6 :=
  Eq.trans (b := lA M (zlq Qt6 [Z5]) Qt6 M (S6 m16_4 pa0_0 x58_5 out13_6 x67_6)) (by kernel_rfl) (el6 M Z5 h5 hZ5 M m16_4 pa0_0 x58_5 out13_6 x67_6)
theorem el5 (M : Nat) (k : Nat) (m16_4 : (List (arr2_Int × Bool))) (pa0_0 : api_Paradigm) (out13_5 : (List arr2_Int)) (x58_5 : Int) : lA M (zlq Qt5 []) Qt5 k (S5 m16_4 pa0_0 out13_5 x58_5) = l5 M k m16_4 pa0_0 out13_5 x58_5 := by
  induction k generalizing m16_4 pa0_0 out13_5 x58_5 with
  | zero => kernel_rfl
  | succ k ih =>
    refine Eq.trans (b := lA M (zlq Qt5 [lA M (zlq Qt5 []) Qt5 k]) Qt5 (k + 1) (S5 m16_4 pa0_0 out13_5 x58_5)) (by kernel_rfl) ?_
    refine (seg_loop (Hok M) 0 Qt5 body plans (K M) _ (S5 m16_4 pa0_0 out13_5 x58_5) (around_zlq _ _ (by kernel_rfl)) (by kernel_rfl) (by kernel_rfl)).trans ?_
    refine (g5 M _ m16_4 pa0_0 out13_5 x58_5).trans ?_
    have x0 := (funext fun m16_4 => funext fun pa0_0 => funext fun x58_5 => funext fun out13_6 => funext fun x67_6 => Eq.trans (b := zA M (zlq Qt6 [(lA M (zlq Qt5 []) Qt5 k)]) Qt6 (S6 m16_4 pa0_0 x58_5 out13_6 x67_6)) (by kernel_rfl) (e6 M (lA M (zlq Qt5 []) Qt5 k) (l5 M k) (fun m16_4 pa0_0 out13_5 x58_5 => ih m16_4 pa0_0 out13_5 x58_5) m16_4 pa0_0 x58_5 out13_6 x67_6) : (fun m16_4 pa0_0 x58_5 out13_6 x67_6 => zA M (zlq Qt5 [lA M (zlq Qt5 []) Qt5 k]) Qt6 (S6 m16_4 pa0_0 x58_5 out13_6 x67_6)) = l6 M (l5 M k) M)
    rw [x0]; rfl
theorem e5 (M : Nat) (m16_4 : (List (arr2_Int × Bool))) (pa0_0 : api_Paradigm) (out13_5 : (List arr2_Int)) (x58_5 : Int) : zA M (zlq Qt5 []) Qt5 (S5 m16_4 pa0_0 out13_5 x58_5) = l5 M M m16_4 pa0_0 out13_5 x58_5 :=
  Eq.trans (b := lA M (zlq Qt5 []) Qt5 M (S5 m16_4 pa0_0 out13_5 x58_5)) (by kernel_rfl) (el5 M M m16_4 pa0_0 out13_5 x58_5)
theorem e4 (M : Nat) (pa0_0 : api_Paradigm) (m16_4 : (List (arr2_Int × Bool))) : zA M (zlq Qt4 []) Qt4 (S4 pa0_0 m16_4) = j4 M pa0_0 m16_4 := by
  refine (seg_join (Hok M) 0 Qt4 body plans (K M) _ (S4 pa0_0 m16_4) (around_zlq _ _ (by kernel_rfl)) (by kernel_rfl)).trans ?_
  refine (g4 M _ pa0_0 m16_4).trans ?_
  have x0 := (funext fun m16_4 => funext fun pa0_0 => funext fun out13_5 => funext fun x58_5 => Eq.trans (b := zA M (zlq Qt5 []) Qt5 (S5 m16_4 pa0_0 out13_5 x58_5)) (by kernel_rfl) (e5 M m16_4 pa0_0 out13_5 x58_5) : (fun m16_4 pa0_0 out13_5 x58_5 => zA M (zlq Qt4 []) Qt5 (S5 m16_4 pa0_0 out13_5 x58_5)) = l5 M M)
  rw [x0]; rfl
theorem el1 (M : Nat) (k : Nat) (inherenta1_0 : (List (List api_Feature))) (pa0_0 : api_Paradigm) (it0_1 : (List ((List api_Feature)))) (m16_1 : (List (arr2_Int × Bool))) : lA M (zlq Qt1 []) Qt1 k (S1 inherenta1_0 pa0_0 it0_1 m16_1) = l1 M k inherenta1_0 pa0_0 it0_1 m16_1 := by
  induction k generalizing inherenta1_0 pa0_0 it0_1 m16_1 with
  | zero => kernel_rfl
  | succ k ih =>
    refine Eq.trans (b := lA M (zlq Qt1 [lA M (zlq Qt1 []) Qt1 k]) Qt1 (k + 1) (S1 inherenta1_0 pa0_0 it0_1 m16_1)) (by kernel_rfl) ?_
    refine (seg_loop (Hok M) 0 Qt1 body plans (K M) _ (S1 inherenta1_0 pa0_0 it0_1 m16_1) (around_zlq _ _ (by kernel_rfl)) (by kernel_rfl) (by kernel_rfl)).trans ?_
    refine (g1 M _ inherenta1_0 pa0_0 it0_1 m16_1).trans ?_
    have x0 := (funext fun inherenta1_0 => funext fun pa0_0 => funext fun x900_1 => funext fun xs900_1 => funext fun x23_2 => funext fun m16_2 => Eq.trans (b := zA M (zlq Qt2 [(lA M (zlq Qt1 []) Qt1 k)]) Qt2 (S2 inherenta1_0 pa0_0 x900_1 xs900_1 x23_2 m16_2)) (by kernel_rfl) (e2 M (lA M (zlq Qt1 []) Qt1 k) (l1 M k) (fun inherenta1_0 pa0_0 it0_1 m16_1 => ih inherenta1_0 pa0_0 it0_1 m16_1) inherenta1_0 pa0_0 x900_1 xs900_1 x23_2 m16_2) : (fun inherenta1_0 pa0_0 x900_1 xs900_1 x23_2 m16_2 => zA M (zlq Qt1 [lA M (zlq Qt1 []) Qt1 k]) Qt2 (S2 inherenta1_0 pa0_0 x900_1 xs900_1 x23_2 m16_2)) = l2 M (l1 M k) M)
    have x1 := (funext fun pa0_0 => funext fun m16_4 => Eq.trans (b := zA M (zlq Qt4 []) Qt4 (S4 pa0_0 m16_4)) (by kernel_rfl) (e4 M pa0_0 m16_4) : (fun pa0_0 m16_4 => zA M (zlq Qt1 [lA M (zlq Qt1 []) Qt1 k]) Qt4 (S4 pa0_0 m16_4)) = j4 M)
    rw [x0, x1]; rfl
theorem e1 (M : Nat) (inherenta1_0 : (List (List api_Feature))) (pa0_0 : api_Paradigm) (it0_1 : (List ((List api_Feature)))) (m16_1 : (List (arr2_Int × Bool))) : zA M (zlq Qt1 []) Qt1 (S1 inherenta1_0 pa0_0 it0_1 m16_1) = l1 M M inherenta1_0 pa0_0 it0_1 m16_1 :=
  Eq.trans (b := lA M (zlq Qt1 []) Qt1 M (S1 inherenta1_0 pa0_0 it0_1 m16_1)) (by kernel_rfl) (el1 M M inherenta1_0 pa0_0 it0_1 m16_1)
theorem run (M : Nat) (pa0_0 : api_Paradigm) (inherenta1_0 : (List (List api_Feature))) : runF (rs := rs) (C28 M) (X M) M body Try.f28.ntmps 89 Try.f28.results.toList plans ps ex (pa0_0, inherenta1_0) = paradigm_Unused M pa0_0 inherenta1_0 := by
  refine Eq.trans (b := runC (C28 M) (X M) M body plans (start (argHs ps (pa0_0, inherenta1_0)) Try.f28.ntmps 89) (K M)) (by kernel_rfl) ?_
  refine (zrun (Hok M) 0 body plans _ (K M) (fun _ => none) fun _ => rfl).symm.trans ?_
  refine (g M _ pa0_0 inherenta1_0).trans ?_
  have x0 := (funext fun inherenta1_0 => funext fun pa0_0 => funext fun it0_1 => funext fun m16_1 => Eq.trans (b := zA M (zlq Qt1 []) Qt1 (S1 inherenta1_0 pa0_0 it0_1 m16_1)) (by kernel_rfl) (e1 M inherenta1_0 pa0_0 it0_1 m16_1) : (fun inherenta1_0 pa0_0 it0_1 m16_1 => zA M (fun _ => none) Qt1 (S1 inherenta1_0 pa0_0 it0_1 m16_1)) = l1 M M)
  rw [x0]; rfl
noncomputable def sig (M : Nat) : Sig E := { ps := ps, rs := rs, ex := ex, fn := fun x => paradigm_Unused M x.1 x.2 }
theorem says (M : Nat) : callable Try.prog 28 = true ∧ ∀ x y, (sig M).fn x = some y → Says Try.prog 28 (sig M) x y := by
  refine ⟨by kernel_rfl, fun x y h => ?_⟩
  refine says_of_run (S := sig M) (C := C28 M) (X := X M) (M := M) (q := 89) (plans := plans) (COk_Try) (SigOk_C28 M) (ItOk_C28 M) (by kernel_rfl) (callOk_ext COk_Try (SigOk_C28 M) (ItOk_C28 M) (by kernel_rfl) inl_ok.ok (RSigOk_C28 M) (fun _ => callOk_none) M 2) (Try.func28) (body := body) (by kernel_rfl) (by kernel_rfl) ?_
  obtain ⟨pa0_0, inherenta1_0⟩ := x
  exact (run M pa0_0 inherenta1_0).trans h
end paradigm_Unused
end Go.Ai.Par
end
set_option linter.unusedVariables false
set_option linter.unusedSectionVars false
noncomputable section
namespace Go.Ai.Par
open Go Go.Ai Go.Proofs
noncomputable def sigs48 (M : Nat) : List (Nat × Sig E) := [(14, pentaglotref10_Cells.sig M), (21, pentaglotref10_Merge.sig M), (24, pentaglotref10_Chosen.sig M)]
noncomputable def rs48 (M : Nat) : List (Nat × Sig E) := []
noncomputable def its48 (M : Nat) : List (Nat × It E) := []
theorem sigs_ok48 (M : Nat) : SigsOk Try.prog (sigs48 M) := SigsOk.cons (pentaglotref10_Cells.says M) (SigsOk.cons (pentaglotref10_Merge.says M) (SigsOk.cons (pentaglotref10_Chosen.says M) (SigsOk.nil)))
theorem rs_ok48 (M : Nat) : SigsOk Try.prog (rs48 M) := SigsOk.nil
theorem its_ok48 (M : Nat) : ItsOk Try.prog (its48 M) := ItsOk.nil
noncomputable def C48 (M : Nat) : Ctx E := { ti := fun t => tisE.lookup t, sig := fun f => (sigs48 M).lookup f, it := fun f => (its48 M).lookup f, nt := 50 }
theorem SigOk_C48 (M : Nat) : SigOk Try.prog (C48 M) := sigs_ok48 M
theorem RSigOk_C48 (M : Nat) : SigOk Try.prog ({ ti := fun _ => none, sig := fun f => (rs48 M).lookup f } : Ctx E) := rs_ok48 M
theorem ItOk_C48 (M : Nat) : ItOk Try.prog (C48 M) := (its_ok48 M).ok
namespace pentaglotref10_used
noncomputable def plans : List (Option (Plan Nm)) := [none, none, none, some { tmps := [(1, .asis), (2, .asis), (3, .asis), (4, .asis), (9, .own (100009, 0, 31) (.sl (.st .api_Feature))), (10, .asis)], boxes := [(4, [.asis, .asis, .asis])] }, none, none, none, some { tmps := [(1, .asis), (2, .asis), (3, .asis), (4, .asis), (9, .own (100009, 0, 31) (.sl (.st .api_Feature))), (10, .asis), (11, .asis)], boxes := [(4, [.asis, .asis, .asis])] }, none, none, none, none, none, none, none, none, none]
noncomputable abbrev body : Code := bodyOf Try.f48
def ps : List (Ty Nm) := [(.st .api_Paradigm), (.int .i64), (.int .i64), (.sl (.sl (.st .api_Feature)))]
def rs : List (Ty Nm) := [.bool]
def ex : List (Option Nat) := [none]
noncomputable def inl : List (Nat × Nat × Nat × Inl Nm) := []
theorem inl_ok : InlsOk Try.prog inl := InlsOk.nil
noncomputable def X (M : Nat) : Ext E Bool := extOf (C48 M) (inlOf inl) (fun f => (rs48 M).lookup f) (fun _ _ _ => none) noX M 1
abbrev Rt := Bool
noncomputable def H (M : Nat) : Hd E Rt := hd0 (X M)
theorem Hok (M : Nat) : (H M).ok (C48 M) M := hd0_ok _
abbrev Qt2 : List Dir := [.r, .r, .l, .r, .k, .L, .r, .l, .k, .r, .k]
abbrev Ht2 := Int → Int → (List (List api_Feature)) → api_Paradigm → (List (List api_Feature)) → Int → Int → Option Rt
abbrev Qt1 : List Dir := [.r, .r, .l, .r, .k]
abbrev Ht1 := Int → (List (List api_Feature)) → api_Paradigm → (List (List api_Feature)) → Int → Int → Option Rt
abbrev Zt := List Dir → St E → Option Rt
abbrev Ut := St E → Option Rt
noncomputable def s2 (M : Nat) (h1 : Ht1) (h2 : Ht2) (affixa2_0 : Int) (i10_1 : Int) (inherenta3_0 : (List (List api_Feature))) (pa0_0 : api_Paradigm) (r15_1 : (List (List api_Feature))) (slota1_0 : Int) (k11_2 : Int) : Option Rt :=
  cond (decide (k11_2 < (inherenta3_0.length : Int)))
   (cond (decide (0 ≤ i10_1) && decide (i10_1 < (r15_1.length : Int)))
     (cond (decide (0 ≤ k11_2) && decide (k11_2 < (inherenta3_0.length : Int)))
       (Option.bind (pentaglotref10_Merge M pa0_0 (r15_1.getD i10_1.toNat default) (inherenta3_0.getD k11_2.toNat default)) fun r38_47 =>
        cond (r38_47.2)
         (Option.bind (pentaglotref10_Chosen M pa0_0 slota1_0 r38_47.1) fun r46_49 =>
          cond (decide (r46_49 = affixa2_0))
           (some true)
           (h2 affixa2_0 i10_1 inherenta3_0 pa0_0 r15_1 slota1_0 (IntKind.i64.wrap (k11_2 + 1))))
         (h2 affixa2_0 i10_1 inherenta3_0 pa0_0 r15_1 slota1_0 (IntKind.i64.wrap (k11_2 + 1))))
       none)
     none)
   (h1 affixa2_0 inherenta3_0 pa0_0 r15_1 slota1_0 (IntKind.i64.wrap (i10_1 + 1)))
noncomputable def l2 (M : Nat) (h1 : Ht1) : Nat → Ht2
  | 0, _, _, _, _, _, _, _ => none
  | k + 1, affixa2_0, i10_1, inherenta3_0, pa0_0, r15_1, slota1_0, k11_2 => s2 M h1 (l2 M h1 k) affixa2_0 i10_1 inherenta3_0 pa0_0 r15_1 slota1_0 k11_2
noncomputable def s1 (M : Nat) (h2 : Ht2) (affixa2_0 : Int) (inherenta3_0 : (List (List api_Feature))) (pa0_0 : api_Paradigm) (r15_1 : (List (List api_Feature))) (slota1_0 : Int) (i10_1 : Int) : Option Rt :=
  cond (decide (i10_1 < (r15_1.length : Int)))
   (h2 affixa2_0 i10_1 inherenta3_0 pa0_0 r15_1 slota1_0 0)
   (some false)
noncomputable def l1 (M : Nat) : Nat → Ht1
  | 0, _, _, _, _, _, _ => none
  | k + 1, affixa2_0, inherenta3_0, pa0_0, r15_1, slota1_0, i10_1 => s1 M (l2 M (l1 M k) M) affixa2_0 inherenta3_0 pa0_0 r15_1 slota1_0 i10_1
noncomputable def s (M : Nat) (h1 : Ht1) (pa0_0 : api_Paradigm) (slota1_0 : Int) (affixa2_0 : Int) (inherenta3_0 : (List (List api_Feature))) : Option Rt :=
  Option.bind (pentaglotref10_Cells M pa0_0) fun r15_1 =>
  h1 affixa2_0 inherenta3_0 pa0_0 r15_1 slota1_0 0
end pentaglotref10_used
noncomputable def pentaglotref10_used (M : Nat) (pa0_0 : api_Paradigm) (slota1_0 : Int) (affixa2_0 : Int) (inherenta3_0 : (List (List api_Feature))) : Option Bool :=
  pentaglotref10_used.s M (pentaglotref10_used.l1 M M) pa0_0 slota1_0 affixa2_0 inherenta3_0
namespace pentaglotref10_used
noncomputable def S2 (affixa2_0 : Int) (i10_1 : Int) (inherenta3_0 : (List (List api_Feature))) (pa0_0 : api_Paradigm) (r15_1 : (List (List api_Feature))) (slota1_0 : Int) (k11_2 : Int) : St E :=
  mkSt 50 50 [(1, .one (.tv (.int .i64 slota1_0))), (2, .one (.tv (.int .i64 affixa2_0))), (3, .one (.tv (.sl (.sl (.st .api_Feature)) inherenta3_0))), (4, .one (.ptr 4 0)), (9, .one (.tok (100009, 0, 31) (.sl (.st .api_Feature)) r15_1)), (10, .one (.tv (.int .i64 i10_1))), (11, .one (.tv (.int .i64 k11_2)))] [(4, .cells [.tv (.str pa0_0.fName), .tv (.sl (.st .api_Dimension) pa0_0.fDimensions), .tv (.sl (.sl (.st .api_Affix)) pa0_0.fSlots)])] 0 [] [] false
noncomputable def S1 (affixa2_0 : Int) (inherenta3_0 : (List (List api_Feature))) (pa0_0 : api_Paradigm) (r15_1 : (List (List api_Feature))) (slota1_0 : Int) (i10_1 : Int) : St E :=
  mkSt 50 50 [(1, .one (.tv (.int .i64 slota1_0))), (2, .one (.tv (.int .i64 affixa2_0))), (3, .one (.tv (.sl (.sl (.st .api_Feature)) inherenta3_0))), (4, .one (.ptr 4 0)), (9, .one (.tok (100009, 0, 31) (.sl (.st .api_Feature)) r15_1)), (10, .one (.tv (.int .i64 i10_1)))] [(4, .cells [.tv (.str pa0_0.fName), .tv (.sl (.st .api_Dimension) pa0_0.fDimensions), .tv (.sl (.sl (.st .api_Affix)) pa0_0.fSlots)])] 0 [] [] false
noncomputable def K (M : Nat) : Cont E Bool := kRet (C48 M) Try.f48.results.toList rs ex
noncomputable abbrev zA (M : Nat) (ZL : List Dir → Option (Ut)) (q : List Dir) : Ut := zAt (C48 M) (H M) M 0 ZL body plans (K M) q
noncomputable abbrev lA (M : Nat) (ZL : List Dir → Option (Ut)) (q : List Dir) (k : Nat) : Ut := lpAt (C48 M) (H M) M 0 ZL body plans (K M) q k
noncomputable abbrev gA (M : Nat) (Z : Zt) (q : List Dir) : Ut := seg (C48 M) (H M) 0 Z body plans (K M) q
set_option maxRecDepth 100000
theorem g2 (M : Nat) (Z : Zt) (affixa2_0 : Int) (i10_1 : Int) (inherenta3_0 : (List (List api_Feature))) (pa0_0 : api_Paradigm) (r15_1 : (List (List api_Feature))) (slota1_0 : Int) (k11_2 : Int) : gA M Z Qt2 (S2 affixa2_0 i10_1 inherenta3_0 pa0_0 r15_1 slota1_0 k11_2) = s2 M
    (fun affixa2_0 inherenta3_0 pa0_0 r15_1 slota1_0 i10_1 => Z Qt1 (S1 affixa2_0 inherenta3_0 pa0_0 r15_1 slota1_0 i10_1))
    (fun affixa2_0 i10_1 inherenta3_0 pa0_0 r15_1 slota1_0 k11_2 => Z Qt2 (S2 affixa2_0 i10_1 inherenta3_0 pa0_0 r15_1 slota1_0 k11_2)) affixa2_0 i10_1 inherenta3_0 pa0_0 r15_1 slota1_0 k11_2 := by kernel_rfl
theorem g1 (M : Nat) (Z : Zt) (affixa2_0 : Int) (inherenta3_0 : (List (List api_Feature))) (pa0_0 : api_Paradigm) (r15_1 : (List (List api_Feature))) (slota1_0 : Int) (i10_1 : Int) : gA M Z Qt1 (S1 affixa2_0 inherenta3_0 pa0_0 r15_1 slota1_0 i10_1) = s1 M
    (fun affixa2_0 i10_1 inherenta3_0 pa0_0 r15_1 slota1_0 k11_2 => Z Qt2 (S2 affixa2_0 i10_1 inherenta3_0 pa0_0 r15_1 slota1_0 k11_2)) affixa2_0 inherenta3_0 pa0_0 r15_1 slota1_0 i10_1 := by kernel_rfl
theorem g (M : Nat) (Z : Zt) (pa0_0 : api_Paradigm) (slota1_0 : Int) (affixa2_0 : Int) (inherenta3_0 : (List (List api_Feature))) : runZ (C48 M) (extZ (C48 M) (H M) 0) Z body plans (start (argHs ps (pa0_0, slota1_0, affixa2_0, inherenta3_0)) Try.f48.ntmps 50) (K M) = s M
    (fun affixa2_0 inherenta3_0 pa0_0 r15_1 slota1_0 i10_1 => Z Qt1 (S1 affixa2_0 inherenta3_0 pa0_0 r15_1 slota1_0 i10_1)) pa0_0 slota1_0 affixa2_0 inherenta3_0 := by kernel_rfl
theorem el2 (M : Nat) (Z1 : Ut) (h1 : Ht1) (hZ1 : ∀ (affixa2_0 : Int) (inherenta3_0 : (List (List api_Feature))) (pa0_0 : api_Paradigm) (r15_1 : (List (List api_Feature))) (slota1_0 : Int) (i10_1 : Int), Z1 (S1 affixa2_0 inherenta3_0 pa0_0 r15_1 slota1_0 i10_1) = h1 affixa2_0 inherenta3_0 pa0_0 r15_1 slota1_0 i10_1) (k : Nat) (affixa2_0 : Int) (i10_1 : Int) (inherenta3_0 : (List (List api_Feature))) (pa0_0 : api_Paradigm) (r15_1 : (List (List api_Feature))) (slota1_0 : Int) (k11_2 : Int) : lA M (zlq Qt2 [Z1]) Qt2 k (S2 affixa2_0 i10_1 inherenta3_0 pa0_0 r15_1 slota1_0 k11_2) = l2 M h1 k affixa2_0 i10_1 inherenta3_0 pa0_0 r15_1 slota1_0 k11_2 := by
  induction k generalizing affixa2_0 i10_1 inherenta3_0 pa0_0 r15_1 slota1_0 k11_2 with
  | zero => kernel_rfl
  | succ k ih =>
    refine Eq.trans (b := lA M (zlq Qt2 [Z1, lA M (zlq Qt2 [Z1]) Qt2 k]) Qt2 (k + 1) (S2 affixa2_0 i10_1 inherenta3_0 pa0_0 r15_1 slota1_0 k11_2)) (by kernel_rfl) ?_
    refine (seg_loop (Hok M) 0 Qt2 body plans (K M) _ (S2 affixa2_0 i10_1 inherenta3_0 pa0_0 r15_1 slota1_0 k11_2) (around_zlq _ _ (by kernel_rfl)) (by kernel_rfl) (by kernel_rfl)).trans ?_
    refine (g2 M _ affixa2_0 i10_1 inherenta3_0 pa0_0 r15_1 slota1_0 k11_2).trans ?_
    have x0 := (funext fun affixa2_0 => funext fun inherenta3_0 => funext fun pa0_0 => funext fun r15_1 => funext fun slota1_0 => funext fun i10_1 => Eq.trans (b := Z1 (S1 affixa2_0 inherenta3_0 pa0_0 r15_1 slota1_0 i10_1)) (by kernel_rfl) (hZ1 affixa2_0 inherenta3_0 pa0_0 r15_1 slota1_0 i10_1) : (fun affixa2_0 inherenta3_0 pa0_0 r15_1 slota1_0 i10_1 => zA M (zlq Qt2 [Z1, lA M (zlq Qt2 [Z1]) Qt2 k]) Qt1 (S1 affixa2_0 inherenta3_0 pa0_0 r15_1 slota1_0 i10_1)) = h1)
    have x1 := (funext fun affixa2_0 => funext fun i10_1 => funext fun inherenta3_0 => funext fun pa0_0 => funext fun r15_1 => funext fun slota1_0 => funext fun k11_2 => Eq.trans (b := lA M (zlq Qt2 [Z1]) Qt2 k (S2 affixa2_0 i10_1 inherenta3_0 pa0_0 r15_1 slota1_0 k11_2)) (by kernel_rfl) (ih affixa2_0 i10_1 inherenta3_0 pa0_0 r15_1 slota1_0 k11_2) : (fun affixa2_0 i10_1 inherenta3_0 pa0_0 r15_1 slota1_0 k11_2 => zA M (zlq Qt2 [Z1, lA M (zlq Qt2 [Z1]) Qt2 k]) Qt2 (S2 affixa2_0 i10_1 inherenta3_0 pa0_0 r15_1 slota1_0 k11_2)) = l2 M h1 k)
    rw [x0, x1]; rfl
theorem e2 (M : Nat) (Z1 : Ut) (h1 : Ht1) (hZ1 : ∀ (affixa2_0 : Int) (inherenta3_0 : (List (List api_Feature))) (pa0_0 : api_Paradigm) (r15_1 : (List (List api_Feature))) (slota1_0 : Int) (i10_1 : Int), Z1 (S1 affixa2_0 inherenta3_0 pa0_0 r15_1 slota1_0 i10_1) = h1 affixa2_0 inherenta3_0 pa0_0 r15_1 slota1_0 i10_1) (affixa2_0 : Int) (i10_1 : Int) (inherenta3_0 : (List (List api_Feature))) (pa0_0 : api_Paradigm) (r15_1 : (List (List api_Feature))) (slota1_0 : Int) (k11_2 : Int) : zA M (zlq Qt2 [Z1]) Qt2 (S2 affixa2_0 i10_1 inherenta3_0 pa0_0 r15_1 slota1_0 k11_2) = l2 M h1 M affixa2_0 i10_1 inherenta3_0 pa0_0 r15_1 slota1_0 k11_2 :=
  Eq.trans (b := lA M (zlq Qt2 [Z1]) Qt2 M (S2 affixa2_0 i10_1 inherenta3_0 pa0_0 r15_1 slota1_0 k11_2)) (by kernel_rfl) (el2 M Z1 h1 hZ1 M affixa2_0 i10_1 inherenta3_0 pa0_0 r15_1 slota1_0 k11_2)
theorem el1 (M : Nat) (k : Nat) (affixa2_0 : Int) (inherenta3_0 : (List (List api_Feature))) (pa0_0 : api_Paradigm) (r15_1 : (List (List api_Feature))) (slota1_0 : Int) (i10_1 : Int) : lA M (zlq Qt1 []) Qt1 k (S1 affixa2_0 inherenta3_0 pa0_0 r15_1 slota1_0 i10_1) = l1 M k affixa2_0 inherenta3_0 pa0_0 r15_1 slota1_0 i10_1 := by
  induction k generalizing affixa2_0 inherenta3_0 pa0_0 r15_1 slota1_0 i10_1 with
  | zero => kernel_rfl
  | succ k ih =>
    refine Eq.trans (b := lA M (zlq Qt1 [lA M (zlq Qt1 []) Qt1 k]) Qt1 (k + 1) (S1 affixa2_0 inherenta3_0 pa0_0 r15_1 slota1_0 i10_1)) (by kernel_rfl) ?_
    refine (seg_loop (Hok M) 0 Qt1 body plans (K M) _ (S1 affixa2_0 inherenta3_0 pa0_0 r15_1 slota1_0 i10_1) (around_zlq _ _ (by kernel_rfl)) (by kernel_rfl) (by kernel_rfl)).trans ?_
    refine (g1 M _ affixa2_0 inherenta3_0 pa0_0 r15_1 slota1_0 i10_1).trans ?_
    have x0 := (funext fun affixa2_0 => funext fun i10_1 => funext fun inherenta3_0 => funext fun pa0_0 => funext fun r15_1 => funext fun slota1_0 => funext fun k11_2 => Eq.trans (b := zA M (zlq Qt2 [(lA M (zlq Qt1 []) Qt1 k)]) Qt2 (S2 affixa2_0 i10_1 inherenta3_0 pa0_0 r15_1 slota1_0 k11_2)) (by kernel_rfl) (e2 M (lA M (zlq Qt1 []) Qt1 k) (l1 M k) (fun affixa2_0 inherenta3_0 pa0_0 r15_1 slota1_0 i10_1 => ih affixa2_0 inherenta3_0 pa0_0 r15_1 slota1_0 i10_1) affixa2_0 i10_1 inherenta3_0 pa0_0 r15_1 slota1_0 k11_2) : (fun affixa2_0 i10_1 inherenta3_0 pa0_0 r15_1 slota1_0 k11_2 => zA M (zlq Qt1 [lA M (zlq Qt1 []) Qt1 k]) Qt2 (S2 affixa2_0 i10_1 inherenta3_0 pa0_0 r15_1 slota1_0 k11_2)) = l2 M (l1 M k) M)
    rw [x0]; rfl
theorem e1 (M : Nat) (affixa2_0 : Int) (inherenta3_0 : (List (List api_Feature))) (pa0_0 : api_Paradigm) (r15_1 : (List (List api_Feature))) (slota1_0 : Int) (i10_1 : Int) : zA M (zlq Qt1 []) Qt1 (S1 affixa2_0 inherenta3_0 pa0_0 r15_1 slota1_0 i10_1) = l1 M M affixa2_0 inherenta3_0 pa0_0 r15_1 slota1_0 i10_1 :=
  Eq.trans (b := lA M (zlq Qt1 []) Qt1 M (S1 affixa2_0 inherenta3_0 pa0_0 r15_1 slota1_0 i10_1)) (by kernel_rfl) (el1 M M affixa2_0 inherenta3_0 pa0_0 r15_1 slota1_0 i10_1)
theorem run (M : Nat) (pa0_0 : api_Paradigm) (slota1_0 : Int) (affixa2_0 : Int) (inherenta3_0 : (List (List api_Feature))) : runF (rs := rs) (C48 M) (X M) M body Try.f48.ntmps 50 Try.f48.results.toList plans ps ex (pa0_0, slota1_0, affixa2_0, inherenta3_0) = pentaglotref10_used M pa0_0 slota1_0 affixa2_0 inherenta3_0 := by
  refine Eq.trans (b := runC (C48 M) (X M) M body plans (start (argHs ps (pa0_0, slota1_0, affixa2_0, inherenta3_0)) Try.f48.ntmps 50) (K M)) (by kernel_rfl) ?_
  refine (zrun (Hok M) 0 body plans _ (K M) (fun _ => none) fun _ => rfl).symm.trans ?_
  refine (g M _ pa0_0 slota1_0 affixa2_0 inherenta3_0).trans ?_
  have x0 := (funext fun affixa2_0 => funext fun inherenta3_0 => funext fun pa0_0 => funext fun r15_1 => funext fun slota1_0 => funext fun i10_1 => Eq.trans (b := zA M (zlq Qt1 []) Qt1 (S1 affixa2_0 inherenta3_0 pa0_0 r15_1 slota1_0 i10_1)) (by kernel_rfl) (e1 M affixa2_0 inherenta3_0 pa0_0 r15_1 slota1_0 i10_1) : (fun affixa2_0 inherenta3_0 pa0_0 r15_1 slota1_0 i10_1 => zA M (fun _ => none) Qt1 (S1 affixa2_0 inherenta3_0 pa0_0 r15_1 slota1_0 i10_1)) = l1 M M)
  rw [x0]; rfl
noncomputable def sig (M : Nat) : Sig E := { ps := ps, rs := rs, ex := ex, fn := fun x => pentaglotref10_used M x.1 x.2.1 x.2.2.1 x.2.2.2 }
theorem says (M : Nat) : callable Try.prog 48 = true ∧ ∀ x y, (sig M).fn x = some y → Says Try.prog 48 (sig M) x y := by
  refine ⟨by kernel_rfl, fun x y h => ?_⟩
  refine says_of_run (S := sig M) (C := C48 M) (X := X M) (M := M) (q := 50) (plans := plans) (COk_Try) (SigOk_C48 M) (ItOk_C48 M) (by kernel_rfl) (callOk_ext COk_Try (SigOk_C48 M) (ItOk_C48 M) (by kernel_rfl) inl_ok.ok (RSigOk_C48 M) (fun _ => callOk_none) M 1) (Try.func48) (body := body) (by kernel_rfl) (by kernel_rfl) ?_
  obtain ⟨pa0_0, slota1_0, affixa2_0, inherenta3_0⟩ := x
  exact (run M pa0_0 slota1_0 affixa2_0 inherenta3_0).trans h
end pentaglotref10_used
end Go.Ai.Par
end
set_option linter.unusedVariables false
set_option linter.unusedSectionVars false
noncomputable section
namespace Go.Ai.Par
open Go Go.Ai Go.Proofs
noncomputable def sigs29 (M : Nat) : List (Nat × Sig E) := [(48, pentaglotref10_used.sig M)]
noncomputable def rs29 (M : Nat) : List (Nat × Sig E) := []
noncomputable def its29 (M : Nat) : List (Nat × It E) := []
theorem sigs_ok29 (M : Nat) : SigsOk Try.prog (sigs29 M) := SigsOk.cons (pentaglotref10_used.says M) (SigsOk.nil)
theorem rs_ok29 (M : Nat) : SigsOk Try.prog (rs29 M) := SigsOk.nil
theorem its_ok29 (M : Nat) : ItsOk Try.prog (its29 M) := ItsOk.nil
noncomputable def C29 (M : Nat) : Ctx E := { ti := fun t => tisE.lookup t, sig := fun f => (sigs29 M).lookup f, it := fun f => (its29 M).lookup f, nt := 39 }
theorem SigOk_C29 (M : Nat) : SigOk Try.prog (C29 M) := sigs_ok29 M
theorem RSigOk_C29 (M : Nat) : SigOk Try.prog ({ ti := fun _ => none, sig := fun f => (rs29 M).lookup f } : Ctx E) := rs_ok29 M
theorem ItOk_C29 (M : Nat) : ItOk Try.prog (C29 M) := (its_ok29 M).ok
namespace pentaglotref10_Unused
noncomputable def plans : List (Option (Plan Nm)) := [none, none, none, some { tmps := [(1, .asis), (2, .asis), (5, .own (100005, 0, 54) (.st .arr2_Int)), (6, .asis)], boxes := [(2, [.asis, .asis, .asis])] }, none, none, none, some { tmps := [(1, .asis), (2, .asis), (5, .own (100005, 0, 54) (.st .arr2_Int)), (6, .asis), (7, .asis)], boxes := [(2, [.asis, .asis, .asis])] }, none, none, none, none, none, none, none]
noncomputable abbrev body : Code := bodyOf Try.f29
def ps : List (Ty Nm) := [(.st .api_Paradigm), (.sl (.sl (.st .api_Feature)))]
def rs : List (Ty Nm) := [(.sl (.st .arr2_Int))]
def ex : List (Option Nat) := [some 54]
noncomputable def inl : List (Nat × Nat × Nat × Inl Nm) := []
theorem inl_ok : InlsOk Try.prog inl := InlsOk.nil
noncomputable def X (M : Nat) : Ext E (List arr2_Int) := extOf (C29 M) (inlOf inl) (fun f => (rs29 M).lookup f) (fun _ _ _ => none) noX M 1
abbrev Rt := (List arr2_Int)
noncomputable def H (M : Nat) : Hd E Rt := hd0 (X M)
theorem Hok (M : Nat) : (H M).ok (C29 M) M := hd0_ok _
abbrev Qt2 : List Dir := [.r, .r, .l, .r, .k, .L, .r, .l, .k, .r, .k]
abbrev Ht2 := Int → (List (List api_Feature)) → api_Paradigm → (List arr2_Int) → Int → Option Rt
abbrev Qt1 : List Dir := [.r, .r, .l, .r, .k]
abbrev Ht1 := (List (List api_Feature)) → api_Paradigm → (List arr2_Int) → Int → Option Rt
abbrev Zt := List Dir → St E → Option Rt
abbrev Ut := St E → Option Rt
noncomputable def s2 (M : Nat) (h1 : Ht1) (h2 : Ht2) (i6_1 : Int) (inherenta1_0 : (List (List api_Feature))) (pa0_0 : api_Paradigm) (out5_2 : (List arr2_Int)) (k7_2 : Int) : Option Rt :=
  cond (decide (0 ≤ i6_1) && decide (i6_1 < (pa0_0.fSlots.length : Int)))
   (cond (decide (k7_2 < ((pa0_0.fSlots.getD i6_1.toNat default).length : Int)))
     (Option.bind (pentaglotref10_used M pa0_0 i6_1 k7_2 inherenta1_0) fun r30_16 =>
      cond (!r30_16)
       (cond (decide (out5_2.length + ([arr2_Int.mk i6_1 k7_2] : List arr2_Int).length ≤ lim))
         (h2 i6_1 inherenta1_0 pa0_0 (out5_2 ++ [arr2_Int.mk i6_1 k7_2]) (IntKind.i64.wrap (k7_2 + 1)))
         none)
       (h2 i6_1 inherenta1_0 pa0_0 out5_2 (IntKind.i64.wrap (k7_2 + 1))))
     (h1 inherenta1_0 pa0_0 out5_2 (IntKind.i64.wrap (i6_1 + 1))))
   none
noncomputable def l2 (M : Nat) (h1 : Ht1) : Nat → Ht2
  | 0, _, _, _, _, _ => none
  | k + 1, i6_1, inherenta1_0, pa0_0, out5_2, k7_2 => s2 M h1 (l2 M h1 k) i6_1 inherenta1_0 pa0_0 out5_2 k7_2
noncomputable def s1 (M : Nat) (h2 : Ht2) (inherenta1_0 : (List (List api_Feature))) (pa0_0 : api_Paradigm) (out5_1 : (List arr2_Int)) (i6_1 : Int) : Option Rt :=
  cond (decide (i6_1 < (pa0_0.fSlots.length : Int)))
   (h2 i6_1 inherenta1_0 pa0_0 out5_1 0)
   (some out5_1)
noncomputable def l1 (M : Nat) : Nat → Ht1
  | 0, _, _, _, _ => none
  | k + 1, inherenta1_0, pa0_0, out5_1, i6_1 => s1 M (l2 M (l1 M k) M) inherenta1_0 pa0_0 out5_1 i6_1
noncomputable def s (M : Nat) (h1 : Ht1) (pa0_0 : api_Paradigm) (inherenta1_0 : (List (List api_Feature))) : Option Rt :=
  h1 inherenta1_0 pa0_0 ([] : (List arr2_Int)) 0
end pentaglotref10_Unused
noncomputable def pentaglotref10_Unused (M : Nat) (pa0_0 : api_Paradigm) (inherenta1_0 : (List (List api_Feature))) : Option (List arr2_Int) :=
  pentaglotref10_Unused.s M (pentaglotref10_Unused.l1 M M) pa0_0 inherenta1_0
namespace pentaglotref10_Unused
noncomputable def S2 (i6_1 : Int) (inherenta1_0 : (List (List api_Feature))) (pa0_0 : api_Paradigm) (out5_2 : (List arr2_Int)) (k7_2 : Int) : St E :=
  mkSt 39 39 [(1, .one (.tv (.sl (.sl (.st .api_Feature)) inherenta1_0))), (2, .one (.ptr 2 0)), (5, .one (.tok (100005, 0, 54) (.st .arr2_Int) out5_2)), (6, .one (.tv (.int .i64 i6_1))), (7, .one (.tv (.int .i64 k7_2)))] [(2, .cells [.tv (.str pa0_0.fName), .tv (.sl (.st .api_Dimension) pa0_0.fDimensions), .tv (.sl (.sl (.st .api_Affix)) pa0_0.fSlots)])] 0 [] [] false
noncomputable def S1 (inherenta1_0 : (List (List api_Feature))) (pa0_0 : api_Paradigm) (out5_1 : (List arr2_Int)) (i6_1 : Int) : St E :=
  mkSt 39 39 [(1, .one (.tv (.sl (.sl (.st .api_Feature)) inherenta1_0))), (2, .one (.ptr 2 0)), (5, .one (.tok (100005, 0, 54) (.st .arr2_Int) out5_1)), (6, .one (.tv (.int .i64 i6_1)))] [(2, .cells [.tv (.str pa0_0.fName), .tv (.sl (.st .api_Dimension) pa0_0.fDimensions), .tv (.sl (.sl (.st .api_Affix)) pa0_0.fSlots)])] 0 [] [] false
noncomputable def K (M : Nat) : Cont E (List arr2_Int) := kRet (C29 M) Try.f29.results.toList rs ex
noncomputable abbrev zA (M : Nat) (ZL : List Dir → Option (Ut)) (q : List Dir) : Ut := zAt (C29 M) (H M) M 0 ZL body plans (K M) q
noncomputable abbrev lA (M : Nat) (ZL : List Dir → Option (Ut)) (q : List Dir) (k : Nat) : Ut := lpAt (C29 M) (H M) M 0 ZL body plans (K M) q k
noncomputable abbrev gA (M : Nat) (Z : Zt) (q : List Dir) : Ut := seg (C29 M) (H M) 0 Z body plans (K M) q
set_option maxRecDepth 100000
theorem g2 (M : Nat) (Z : Zt) (i6_1 : Int) (inherenta1_0 : (List (List api_Feature))) (pa0_0 : api_Paradigm) (out5_2 : (List arr2_Int)) (k7_2 : Int) : gA M Z Qt2 (S2 i6_1 inherenta1_0 pa0_0 out5_2 k7_2) = s2 M
    (fun inherenta1_0 pa0_0 out5_1 i6_1 => Z Qt1 (S1 inherenta1_0 pa0_0 out5_1 i6_1))
    (fun i6_1 inherenta1_0 pa0_0 out5_2 k7_2 => Z Qt2 (S2 i6_1 inherenta1_0 pa0_0 out5_2 k7_2)) i6_1 inherenta1_0 pa0_0 out5_2 k7_2 := by kernel_rfl
theorem g1 (M : Nat) (Z : Zt) (inherenta1_0 : (List (List api_Feature))) (pa0_0 : api_Paradigm) (out5_1 : (List arr2_Int)) (i6_1 : Int) : gA M Z Qt1 (S1 inherenta1_0 pa0_0 out5_1 i6_1) = s1 M
    (fun i6_1 inherenta1_0 pa0_0 out5_2 k7_2 => Z Qt2 (S2 i6_1 inherenta1_0 pa0_0 out5_2 k7_2)) inherenta1_0 pa0_0 out5_1 i6_1 := by kernel_rfl
theorem g (M : Nat) (Z : Zt) (pa0_0 : api_Paradigm) (inherenta1_0 : (List (List api_Feature))) : runZ (C29 M) (extZ (C29 M) (H M) 0) Z body plans (start (argHs ps (pa0_0, inherenta1_0)) Try.f29.ntmps 39) (K M) = s M
    (fun inherenta1_0 pa0_0 out5_1 i6_1 => Z Qt1 (S1 inherenta1_0 pa0_0 out5_1 i6_1)) pa0_0 inherenta1_0 := by kernel_rfl
theorem el2 (M : Nat) (Z1 : Ut) (h1 : Ht1) (hZ1 : ∀ (inherenta1_0 : (List (List api_Feature))) (pa0_0 : api_Paradigm) (out5_1 : (List arr2_Int)) (i6_1 : Int), Z1 (S1 inherenta1_0 pa0_0 out5_1 i6_1) = h1 inherenta1_0 pa0_0 out5_1 i6_1) (k : Nat) (i6_1 : Int) (inherenta1_0 : (List (List api_Feature))) (pa0_0 : api_Paradigm) (out5_2 : (List arr2_Int)) (k7_2 : Int) : lA M (zlq Qt2 [Z1]) Qt2 k (S2 i6_1 inherenta1_0 pa0_0 out5_2 k7_2) = l2 M h1 k i6_1 inherenta1_0 pa0_0 out5_2 k7_2 := by
  induction k generalizing i6_1 inherenta1_0 pa0_0 out5_2 k7_2 with
  | zero => kernel_rfl
  | succ k ih =>
    refine Eq.trans (b := lA M (zlq Qt2 [Z1, lA M (zlq Qt2 [Z1]) Qt2 k]) Qt2 (k + 1) (S2 i6_1 inherenta1_0 pa0_0 out5_2 k7_2)) (by kernel_rfl) ?_
    refine (seg_loop (Hok M) 0 Qt2 body plans (K M) _ (S2 i6_1 inherenta1_0 pa0_0 out5_2 k7_2) (around_zlq _ _ (by kernel_rfl)) (by kernel_rfl) (by kernel_rfl)).trans ?_
    refine (g2 M _ i6_1 inherenta1_0 pa0_0 out5_2 k7_2).trans ?_
    have x0 := (funext fun inherenta1_0 => funext fun pa0_0 => funext fun out5_1 => funext fun i6_1 => Eq.trans (b := Z1 (S1 inherenta1_0 pa0_0 out5_1 i6_1)) (by kernel_rfl) (hZ1 inherenta1_0 pa0_0 out5_1 i6_1) : (fun inherenta1_0 pa0_0 out5_1 i6_1 => zA M (zlq Qt2 [Z1, lA M (zlq Qt2 [Z1]) Qt2 k]) Qt1 (S1 inherenta1_0 pa0_0 out5_1 i6_1)) = h1)
    have x1 := (funext fun i6_1 => funext fun inherenta1_0 => funext fun pa0_0 => funext fun out5_2 => funext fun k7_2 => Eq.trans (b := lA M (zlq Qt2 [Z1]) Qt2 k (S2 i6_1 inherenta1_0 pa0_0 out5_2 k7_2)) (by kernel_rfl) (ih i6_1 inherenta1_0 pa0_0 out5_2 k7_2) : (fun i6_1 inherenta1_0 pa0_0 out5_2 k7_2 => zA M (zlq Qt2 [Z1, lA M (zlq Qt2 [Z1]) Qt2 k]) Qt2 (S2 i6_1 inherenta1_0 pa0_0 out5_2 k7_2)) = l2 M h1 k)
    rw [x0, x1]; rfl
theorem e2 (M : Nat) (Z1 : Ut) (h1 : Ht1) (hZ1 : ∀ (inherenta1_0 : (List (List api_Feature))) (pa0_0 : api_Paradigm) (out5_1 : (List arr2_Int)) (i6_1 : Int), Z1 (S1 inherenta1_0 pa0_0 out5_1 i6_1) = h1 inherenta1_0 pa0_0 out5_1 i6_1) (i6_1 : Int) (inherenta1_0 : (List (List api_Feature))) (pa0_0 : api_Paradigm) (out5_2 : (List arr2_Int)) (k7_2 : Int) : zA M (zlq Qt2 [Z1]) Qt2 (S2 i6_1 inherenta1_0 pa0_0 out5_2 k7_2) = l2 M h1 M i6_1 inherenta1_0 pa0_0 out5_2 k7_2 :=
  Eq.trans (b := lA M (zlq Qt2 [Z1]) Qt2 M (S2 i6_1 inherenta1_0 pa0_0 out5_2 k7_2)) (by kernel_rfl) (el2 M Z1 h1 hZ1 M i6_1 inherenta1_0 pa0_0 out5_2 k7_2)
theorem el1 (M : Nat) (k : Nat) (inherenta1_0 : (List (List api_Feature))) (pa0_0 : api_Paradigm) (out5_1 : (List arr2_Int)) (i6_1 : Int) : lA M (zlq Qt1 []) Qt1 k (S1 inherenta1_0 pa0_0 out5_1 i6_1) = l1 M k inherenta1_0 pa0_0 out5_1 i6_1 := by
  induction k generalizing inherenta1_0 pa0_0 out5_1 i6_1 with
  | zero => kernel_rfl
  | succ k ih =>
    refine Eq.trans (b := lA M (zlq Qt1 [lA M (zlq Qt1 []) Qt1 k]) Qt1 (k + 1) (S1 inherenta1_0 pa0_0 out5_1 i6_1)) (by kernel_rfl) ?_
    refine (seg_loop (Hok M) 0 Qt1 body plans (K M) _ (S1 inherenta1_0 pa0_0 out5_1 i6_1) (around_zlq _ _ (by kernel_rfl)) (by kernel_rfl) (by kernel_rfl)).trans ?_
    refine (g1 M _ inherenta1_0 pa0_0 out5_1 i6_1).trans ?_
    have x0 := (funext fun i6_1 => funext fun inherenta1_0 => funext fun pa0_0 => funext fun out5_2 => funext fun k7_2 => Eq.trans (b := zA M (zlq Qt2 [(lA M (zlq Qt1 []) Qt1 k)]) Qt2 (S2 i6_1 inherenta1_0 pa0_0 out5_2 k7_2)) (by kernel_rfl) (e2 M (lA M (zlq Qt1 []) Qt1 k) (l1 M k) (fun inherenta1_0 pa0_0 out5_1 i6_1 => ih inherenta1_0 pa0_0 out5_1 i6_1) i6_1 inherenta1_0 pa0_0 out5_2 k7_2) : (fun i6_1 inherenta1_0 pa0_0 out5_2 k7_2 => zA M (zlq Qt1 [lA M (zlq Qt1 []) Qt1 k]) Qt2 (S2 i6_1 inherenta1_0 pa0_0 out5_2 k7_2)) = l2 M (l1 M k) M)
    rw [x0]; rfl
theorem e1 (M : Nat) (inherenta1_0 : (List (List api_Feature))) (pa0_0 : api_Paradigm) (out5_1 : (List arr2_Int)) (i6_1 : Int) : zA M (zlq Qt1 []) Qt1 (S1 inherenta1_0 pa0_0 out5_1 i6_1) = l1 M M inherenta1_0 pa0_0 out5_1 i6_1 :=
  Eq.trans (b := lA M (zlq Qt1 []) Qt1 M (S1 inherenta1_0 pa0_0 out5_1 i6_1)) (by kernel_rfl) (el1 M M inherenta1_0 pa0_0 out5_1 i6_1)
theorem run (M : Nat) (pa0_0 : api_Paradigm) (inherenta1_0 : (List (List api_Feature))) : runF (rs := rs) (C29 M) (X M) M body Try.f29.ntmps 39 Try.f29.results.toList plans ps ex (pa0_0, inherenta1_0) = pentaglotref10_Unused M pa0_0 inherenta1_0 := by
  refine Eq.trans (b := runC (C29 M) (X M) M body plans (start (argHs ps (pa0_0, inherenta1_0)) Try.f29.ntmps 39) (K M)) (by kernel_rfl) ?_
  refine (zrun (Hok M) 0 body plans _ (K M) (fun _ => none) fun _ => rfl).symm.trans ?_
  refine (g M _ pa0_0 inherenta1_0).trans ?_
  have x0 := (funext fun inherenta1_0 => funext fun pa0_0 => funext fun out5_1 => funext fun i6_1 => Eq.trans (b := zA M (zlq Qt1 []) Qt1 (S1 inherenta1_0 pa0_0 out5_1 i6_1)) (by kernel_rfl) (e1 M inherenta1_0 pa0_0 out5_1 i6_1) : (fun inherenta1_0 pa0_0 out5_1 i6_1 => zA M (fun _ => none) Qt1 (S1 inherenta1_0 pa0_0 out5_1 i6_1)) = l1 M M)
  rw [x0]; rfl
noncomputable def sig (M : Nat) : Sig E := { ps := ps, rs := rs, ex := ex, fn := fun x => pentaglotref10_Unused M x.1 x.2 }
theorem says (M : Nat) : callable Try.prog 29 = true ∧ ∀ x y, (sig M).fn x = some y → Says Try.prog 29 (sig M) x y := by
  refine ⟨by kernel_rfl, fun x y h => ?_⟩
  refine says_of_run (S := sig M) (C := C29 M) (X := X M) (M := M) (q := 39) (plans := plans) (COk_Try) (SigOk_C29 M) (ItOk_C29 M) (by kernel_rfl) (callOk_ext COk_Try (SigOk_C29 M) (ItOk_C29 M) (by kernel_rfl) inl_ok.ok (RSigOk_C29 M) (fun _ => callOk_none) M 1) (Try.func29) (body := body) (by kernel_rfl) (by kernel_rfl) ?_
  obtain ⟨pa0_0, inherenta1_0⟩ := x
  exact (run M pa0_0 inherenta1_0).trans h
end pentaglotref10_Unused
end Go.Ai.Par
end
set_option linter.unusedVariables false
set_option linter.unusedSectionVars false
noncomputable section
namespace Go.Ai.Par
open Go Go.Ai Go.Proofs
noncomputable def sigs27 (M : Nat) : List (Nat × Sig E) := []
noncomputable def rs27 (M : Nat) : List (Nat × Sig E) := []
noncomputable def its27 (M : Nat) : List (Nat × It E) := []
theorem sigs_ok27 (M : Nat) : SigsOk Try.prog (sigs27 M) := SigsOk.nil
theorem rs_ok27 (M : Nat) : SigsOk Try.prog (rs27 M) := SigsOk.nil
theorem its_ok27 (M : Nat) : ItsOk Try.prog (its27 M) := ItsOk.nil
noncomputable def C27 (M : Nat) : Ctx E := { ti := fun t => tisE.lookup t, sig := fun f => (sigs27 M).lookup f, it := fun f => (its27 M).lookup f, nt := 26 }
theorem SigOk_C27 (M : Nat) : SigOk Try.prog (C27 M) := sigs_ok27 M
theorem RSigOk_C27 (M : Nat) : SigOk Try.prog ({ ti := fun _ => none, sig := fun f => (rs27 M).lookup f } : Ctx E) := rs_ok27 M
theorem ItOk_C27 (M : Nat) : ItOk Try.prog (C27 M) := (its_ok27 M).ok
namespace pentaglotref10_SamePairs
noncomputable def plans : List (Option (Plan Nm)) := [none, none, none, none, none, some { tmps := [(0, .asis), (1, .asis), (5, .asis)], boxes := [] }, none, none, none, none, none, none, none]
noncomputable abbrev body : Code := bodyOf Try.f27
def ps : List (Ty Nm) := [(.sl (.st .arr2_Int)), (.sl (.st .arr2_Int))]
def rs : List (Ty Nm) := [.bool]
def ex : List (Option Nat) := [none]
noncomputable def inl : List (Nat × Nat × Nat × Inl Nm) := []
theorem inl_ok : InlsOk Try.prog inl := InlsOk.nil
noncomputable def X (M : Nat) : Ext E Bool := extOf (C27 M) (inlOf inl) (fun f => (rs27 M).lookup f) (fun _ _ _ => none) noX M 1
abbrev Rt := Bool
noncomputable def H (M : Nat) : Hd E Rt := hd0 (X M)
theorem Hok (M : Nat) : (H M).ok (C27 M) M := hd0_ok _
abbrev Qt1 : List Dir := [.r, .r, .l, .r, .k]
abbrev Ht1 := (List arr2_Int) → (List arr2_Int) → Int → Option Rt
abbrev Zt := List Dir → St E → Option Rt
abbrev Ut := St E → Option Rt
noncomputable def s1 (M : Nat) (h1 : Ht1) (xa0_0 : (List arr2_Int)) (ya1_0 : (List arr2_Int)) (i5_1 : Int) : Option Rt :=
  cond (decide (i5_1 < (xa0_0.length : Int)))
   (cond (decide (0 ≤ i5_1) && decide (i5_1 < (xa0_0.length : Int)))
     (cond (decide (0 ≤ i5_1) && decide (i5_1 < (ya1_0.length : Int)))
       (cond (!(decide (((xa0_0.getD i5_1.toNat default).f0) = ((ya1_0.getD i5_1.toNat default).f0)) && (decide (((xa0_0.getD i5_1.toNat default).f1) = ((ya1_0.getD i5_1.toNat default).f1)) && true)))
         (some false)
         (h1 xa0_0 ya1_0 (IntKind.i64.wrap (i5_1 + 1))))
       none)
     none)
   (some true)
noncomputable def l1 (M : Nat) : Nat → Ht1
  | 0, _, _, _ => none
  | k + 1, xa0_0, ya1_0, i5_1 => s1 M (l1 M k) xa0_0 ya1_0 i5_1
noncomputable def s (M : Nat) (h1 : Ht1) (xa0_0 : (List arr2_Int)) (ya1_0 : (List arr2_Int)) : Option Rt :=
  cond (!decide ((xa0_0.length : Int) = (ya1_0.length : Int)))
   (some false)
   (h1 xa0_0 ya1_0 0)
end pentaglotref10_SamePairs
noncomputable def pentaglotref10_SamePairs (M : Nat) (xa0_0 : (List arr2_Int)) (ya1_0 : (List arr2_Int)) : Option Bool :=
  pentaglotref10_SamePairs.s M (pentaglotref10_SamePairs.l1 M M) xa0_0 ya1_0
namespace pentaglotref10_SamePairs
noncomputable def S1 (xa0_0 : (List arr2_Int)) (ya1_0 : (List arr2_Int)) (i5_1 : Int) : St E :=
  mkSt 26 26 [(0, .one (.tv (.sl (.st .arr2_Int) xa0_0))), (1, .one (.tv (.sl (.st .arr2_Int) ya1_0))), (5, .one (.tv (.int .i64 i5_1)))] [] 0 [] [] false
noncomputable def K (M : Nat) : Cont E Bool := kRet (C27 M) Try.f27.results.toList rs ex
noncomputable abbrev zA (M : Nat) (ZL : List Dir → Option (Ut)) (q : List Dir) : Ut := zAt (C27 M) (H M) M 0 ZL body plans (K M) q
noncomputable abbrev lA (M : Nat) (ZL : List Dir → Option (Ut)) (q : List Dir) (k : Nat) : Ut := lpAt (C27 M) (H M) M 0 ZL body plans (K M) q k
noncomputable abbrev gA (M : Nat) (Z : Zt) (q : List Dir) : Ut := seg (C27 M) (H M) 0 Z body plans (K M) q
set_option maxRecDepth 100000
theorem g1 (M : Nat) (Z : Zt) (xa0_0 : (List arr2_Int)) (ya1_0 : (List arr2_Int)) (i5_1 : Int) : gA M Z Qt1 (S1 xa0_0 ya1_0 i5_1) = s1 M
    (fun xa0_0 ya1_0 i5_1 => Z Qt1 (S1 xa0_0 ya1_0 i5_1)) xa0_0 ya1_0 i5_1 := by kernel_rfl
theorem g (M : Nat) (Z : Zt) (xa0_0 : (List arr2_Int)) (ya1_0 : (List arr2_Int)) : runZ (C27 M) (extZ (C27 M) (H M) 0) Z body plans (start (argHs ps (xa0_0, ya1_0)) Try.f27.ntmps 26) (K M) = s M
    (fun xa0_0 ya1_0 i5_1 => Z Qt1 (S1 xa0_0 ya1_0 i5_1)) xa0_0 ya1_0 := by kernel_rfl
theorem el1 (M : Nat) (k : Nat) (xa0_0 : (List arr2_Int)) (ya1_0 : (List arr2_Int)) (i5_1 : Int) : lA M (zlq Qt1 []) Qt1 k (S1 xa0_0 ya1_0 i5_1) = l1 M k xa0_0 ya1_0 i5_1 := by
  induction k generalizing xa0_0 ya1_0 i5_1 with
  | zero => kernel_rfl
  | succ k ih =>
    refine Eq.trans (b := lA M (zlq Qt1 [lA M (zlq Qt1 []) Qt1 k]) Qt1 (k + 1) (S1 xa0_0 ya1_0 i5_1)) (by kernel_rfl) ?_
    refine (seg_loop (Hok M) 0 Qt1 body plans (K M) _ (S1 xa0_0 ya1_0 i5_1) (around_zlq _ _ (by kernel_rfl)) (by kernel_rfl) (by kernel_rfl)).trans ?_
    refine (g1 M _ xa0_0 ya1_0 i5_1).trans ?_
    have x0 := (funext fun xa0_0 => funext fun ya1_0 => funext fun i5_1 => Eq.trans (b := lA M (zlq Qt1 []) Qt1 k (S1 xa0_0 ya1_0 i5_1)) (by kernel_rfl) (ih xa0_0 ya1_0 i5_1) : (fun xa0_0 ya1_0 i5_1 => zA M (zlq Qt1 [lA M (zlq Qt1 []) Qt1 k]) Qt1 (S1 xa0_0 ya1_0 i5_1)) = l1 M k)
    rw [x0]; rfl
theorem e1 (M : Nat) (xa0_0 : (List arr2_Int)) (ya1_0 : (List arr2_Int)) (i5_1 : Int) : zA M (zlq Qt1 []) Qt1 (S1 xa0_0 ya1_0 i5_1) = l1 M M xa0_0 ya1_0 i5_1 :=
  Eq.trans (b := lA M (zlq Qt1 []) Qt1 M (S1 xa0_0 ya1_0 i5_1)) (by kernel_rfl) (el1 M M xa0_0 ya1_0 i5_1)
theorem run (M : Nat) (xa0_0 : (List arr2_Int)) (ya1_0 : (List arr2_Int)) : runF (rs := rs) (C27 M) (X M) M body Try.f27.ntmps 26 Try.f27.results.toList plans ps ex (xa0_0, ya1_0) = pentaglotref10_SamePairs M xa0_0 ya1_0 := by
  refine Eq.trans (b := runC (C27 M) (X M) M body plans (start (argHs ps (xa0_0, ya1_0)) Try.f27.ntmps 26) (K M)) (by kernel_rfl) ?_
  refine (zrun (Hok M) 0 body plans _ (K M) (fun _ => none) fun _ => rfl).symm.trans ?_
  refine (g M _ xa0_0 ya1_0).trans ?_
  have x0 := (funext fun xa0_0 => funext fun ya1_0 => funext fun i5_1 => Eq.trans (b := zA M (zlq Qt1 []) Qt1 (S1 xa0_0 ya1_0 i5_1)) (by kernel_rfl) (e1 M xa0_0 ya1_0 i5_1) : (fun xa0_0 ya1_0 i5_1 => zA M (fun _ => none) Qt1 (S1 xa0_0 ya1_0 i5_1)) = l1 M M)
  rw [x0]; rfl
noncomputable def sig (M : Nat) : Sig E := { ps := ps, rs := rs, ex := ex, fn := fun x => pentaglotref10_SamePairs M x.1 x.2 }
theorem says (M : Nat) : callable Try.prog 27 = true ∧ ∀ x y, (sig M).fn x = some y → Says Try.prog 27 (sig M) x y := by
  refine ⟨by kernel_rfl, fun x y h => ?_⟩
  refine says_of_run (S := sig M) (C := C27 M) (X := X M) (M := M) (q := 26) (plans := plans) (COk_Try) (SigOk_C27 M) (ItOk_C27 M) (by kernel_rfl) (callOk_ext COk_Try (SigOk_C27 M) (ItOk_C27 M) (by kernel_rfl) inl_ok.ok (RSigOk_C27 M) (fun _ => callOk_none) M 1) (Try.func27) (body := body) (by kernel_rfl) (by kernel_rfl) ?_
  obtain ⟨xa0_0, ya1_0⟩ := x
  exact (run M xa0_0 ya1_0).trans h
end pentaglotref10_SamePairs
end Go.Ai.Par
end
