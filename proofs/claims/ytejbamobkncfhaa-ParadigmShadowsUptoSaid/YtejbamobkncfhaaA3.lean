/- A part that the proofs of the laws of this seat share: an interpreter of loaded code over typed values, what it says of the functions that the laws reach, and plain facts on these. -/
import Derived.Test.YtejbamobkncfhaaA0
import Derived.Test.YtejbamobkncfhaaA1
import Derived.Test.YtejbamobkncfhaaA2
import Derived.Test.YtejbamobkncfhaaProg
import Derived.Shelf.SlSortCmp.SmallK
import Derived.Shelf.Small.Bits
import Derived.Laws.Cover1
set_option linter.unusedVariables false
set_option linter.unusedSectionVars false
noncomputable section
namespace Go.Ai.Par
open Go Go.Ai Go.Proofs
noncomputable def sigs51 (M : Nat) : List (Nat × Sig E) := [(50, pentaglotref02_Name.sig M), (66, pentaglotref02_In.sig M)]
noncomputable def rs51 (M : Nat) : List (Nat × Sig E) := []
noncomputable def its51 (M : Nat) : List (Nat × It E) := []
theorem sigs_ok51 (M : Nat) : SigsOk Try.prog (sigs51 M) := SigsOk.cons (pentaglotref02_Name.says M) (SigsOk.cons (pentaglotref02_In.says M) (SigsOk.nil))
theorem rs_ok51 (M : Nat) : SigsOk Try.prog (rs51 M) := SigsOk.nil
theorem its_ok51 (M : Nat) : ItsOk Try.prog (its51 M) := ItsOk.nil
noncomputable def C51 (M : Nat) : Ctx E := { ti := fun t => tisE.lookup t, sig := fun f => (sigs51 M).lookup f, it := fun f => (its51 M).lookup f, nt := 76 }
theorem SigOk_C51 (M : Nat) : SigOk Try.prog (C51 M) := sigs_ok51 M
theorem RSigOk_C51 (M : Nat) : SigOk Try.prog ({ ti := fun _ => none, sig := fun f => (rs51 M).lookup f } : Ctx E) := rs_ok51 M
theorem ItOk_C51 (M : Nat) : ItOk Try.prog (C51 M) := (its_ok51 M).ok
namespace pentaglotref02_Dimensions
noncomputable def plans : List (Option (Plan Nm)) := [none, none, none, none, none, some { tmps := [(0, .asis), (3, .asis)], boxes := [] }, none, none, none, none, none, none, none, some { tmps := [(0, .asis), (3, .asis), (4, .asis), (5, .asis)], boxes := [] }, none, none, none, none, none, some { tmps := [(0, .asis), (3, .asis), (4, .asis)], boxes := [] }, none, some { tmps := [(0, .asis), (3, .asis), (4, .asis), (6, .asis)], boxes := [] }, none, none, none, none, none, none, none, none]
noncomputable abbrev body : Code := bodyOf Try.f51
def ps : List (Ty Nm) := [(.sl (.st .api_Dimension))]
def rs : List (Ty Nm) := [.bool]
def ex : List (Option Nat) := [none]
noncomputable def inl : List (Nat × Nat × Nat × Inl Nm) := []
theorem inl_ok : InlsOk Try.prog inl := InlsOk.nil
noncomputable def X (M : Nat) : Ext E Bool := extOf (C51 M) (inlOf inl) (fun f => (rs51 M).lookup f) (fun _ _ _ => none) noX M 1
abbrev Rt := Bool
noncomputable def H (M : Nat) : Hd E Rt := hd0 (X M)
theorem Hok (M : Nat) : (H M).ok (C51 M) M := hd0_ok _
abbrev Qt4 : List Dir := [.r, .r, .l, .r, .k, .L, .r, .l, .k, .r, .r, .r, .r, .k]
abbrev Ht4 := (List api_Dimension) → Int → Int → Option Rt
abbrev Qt3 : List Dir := [.r, .r, .l, .r, .k, .L, .r, .l, .k, .r, .r]
abbrev Ht3 := (List api_Dimension) → Int → Option Rt
abbrev Qt2 : List Dir := [.r, .r, .l, .r, .k, .L, .r, .l, .k, .r, .r, .l, .r, .k]
abbrev Ht2 := (List api_Dimension) → Int → Int → Option Rt
abbrev Qt1 : List Dir := [.r, .r, .l, .r, .k]
abbrev Ht1 := (List api_Dimension) → Int → Option Rt
abbrev Zt := List Dir → St E → Option Rt
abbrev Ut := St E → Option Rt
noncomputable def s4 (M : Nat) (h1 : Ht1) (h4 : Ht4) (dimsa0_0 : (List api_Dimension)) (i3_1 : Int) (k6_4 : Int) : Option Rt :=
  cond (decide (k6_4 < (((dimsa0_0.getD i3_1.toNat default).fValues).length : Int)))
   (cond (decide (0 ≤ k6_4) && decide (k6_4 < (((dimsa0_0.getD i3_1.toNat default).fValues).length : Int)))
     (Option.bind (pentaglotref02_Name M (((dimsa0_0.getD i3_1.toNat default).fValues).getD k6_4.toNat default)) fun r64_79 =>
      cond (!r64_79)
       (some false)
       (cond (decide (0 ≤ k6_4) && decide (k6_4 ≤ (((dimsa0_0.getD i3_1.toNat default).fValues).length : Int)))
         (cond (decide (0 ≤ k6_4) && decide (k6_4 < (((dimsa0_0.getD i3_1.toNat default).fValues).length : Int)))
           (Option.bind (pentaglotref02_In M (((dimsa0_0.getD i3_1.toNat default).fValues).take k6_4.toNat) (((dimsa0_0.getD i3_1.toNat default).fValues).getD k6_4.toNat default)) fun r74_80 =>
            cond (r74_80)
             (some false)
             (h4 dimsa0_0 i3_1 (IntKind.i64.wrap (k6_4 + 1))))
           none)
         none))
     none)
   (h1 dimsa0_0 (IntKind.i64.wrap (i3_1 + 1)))
noncomputable def l4 (M : Nat) (h1 : Ht1) : Nat → Ht4
  | 0, _, _, _ => none
  | k + 1, dimsa0_0, i3_1, k6_4 => s4 M h1 (l4 M h1 k) dimsa0_0 i3_1 k6_4
noncomputable def s3 (M : Nat) (h4 : Ht4) (dimsa0_0 : (List api_Dimension)) (i3_1 : Int) : Option Rt :=
  h4 dimsa0_0 i3_1 0
noncomputable def j3 (M : Nat) (h1 : Ht1) (dimsa0_0 : (List api_Dimension)) (i3_1 : Int) : Option Rt :=
  s3 M (l4 M h1 M) dimsa0_0 i3_1
noncomputable def s2 (M : Nat) (h2 : Ht2) (h3 : Ht3) (dimsa0_0 : (List api_Dimension)) (i3_1 : Int) (k5_2 : Int) : Option Rt :=
  cond (decide (k5_2 < i3_1))
   (cond (decide (0 ≤ k5_2) && decide (k5_2 < (dimsa0_0.length : Int)))
     (cond (decide (0 ≤ i3_1) && decide (i3_1 < (dimsa0_0.length : Int)))
       (cond (decide (((dimsa0_0.getD k5_2.toNat default).fName) = ((dimsa0_0.getD i3_1.toNat default).fName)))
         (some false)
         (h2 dimsa0_0 i3_1 (IntKind.i64.wrap (k5_2 + 1))))
       none)
     none)
   (h3 dimsa0_0 i3_1)
noncomputable def l2 (M : Nat) (h1 : Ht1) : Nat → Ht2
  | 0, _, _, _ => none
  | k + 1, dimsa0_0, i3_1, k5_2 => s2 M (l2 M h1 k) (j3 M h1) dimsa0_0 i3_1 k5_2
noncomputable def s1 (M : Nat) (h2 : Ht2) (dimsa0_0 : (List api_Dimension)) (i3_1 : Int) : Option Rt :=
  cond (decide (i3_1 < (dimsa0_0.length : Int)))
   (cond (decide (0 ≤ i3_1) && decide (i3_1 < (dimsa0_0.length : Int)))
     (cond (decide (0 ≤ i3_1) && decide (i3_1 < (dimsa0_0.length : Int)))
       (Option.bind (pentaglotref02_Name M ((dimsa0_0.getD i3_1.toNat default).fName)) fun r26_64 =>
        cond (!r26_64)
         (some false)
         (cond (decide ((((dimsa0_0.getD i3_1.toNat default).fValues).length : Int) < 1))
           (some false)
           (cond (decide (8 < (((dimsa0_0.getD i3_1.toNat default).fValues).length : Int)))
             (some false)
             (h2 dimsa0_0 i3_1 0))))
       none)
     none)
   (some true)
noncomputable def l1 (M : Nat) : Nat → Ht1
  | 0, _, _ => none
  | k + 1, dimsa0_0, i3_1 => s1 M (l2 M (l1 M k) M) dimsa0_0 i3_1
noncomputable def s (M : Nat) (h1 : Ht1) (dimsa0_0 : (List api_Dimension)) : Option Rt :=
  cond (decide (4 < (dimsa0_0.length : Int)))
   (some false)
   (h1 dimsa0_0 0)
end pentaglotref02_Dimensions
noncomputable def pentaglotref02_Dimensions (M : Nat) (dimsa0_0 : (List api_Dimension)) : Option Bool :=
  pentaglotref02_Dimensions.s M (pentaglotref02_Dimensions.l1 M M) dimsa0_0
namespace pentaglotref02_Dimensions
noncomputable def S4 (dimsa0_0 : (List api_Dimension)) (i3_1 : Int) (k6_4 : Int) : St E :=
  mkSt 76 76 [(0, .one (.tv (.sl (.st .api_Dimension) dimsa0_0))), (3, .one (.tv (.int .i64 i3_1))), (4, .one (.tv (.sl .str ((dimsa0_0.getD i3_1.toNat default).fValues)))), (6, .one (.tv (.int .i64 k6_4)))] [] 0 [] [] false
noncomputable def S3 (dimsa0_0 : (List api_Dimension)) (i3_1 : Int) : St E :=
  mkSt 76 76 [(0, .one (.tv (.sl (.st .api_Dimension) dimsa0_0))), (3, .one (.tv (.int .i64 i3_1))), (4, .one (.tv (.sl .str ((dimsa0_0.getD i3_1.toNat default).fValues))))] [] 0 [] [] false
noncomputable def S2 (dimsa0_0 : (List api_Dimension)) (i3_1 : Int) (k5_2 : Int) : St E :=
  mkSt 76 76 [(0, .one (.tv (.sl (.st .api_Dimension) dimsa0_0))), (3, .one (.tv (.int .i64 i3_1))), (4, .one (.tv (.sl .str ((dimsa0_0.getD i3_1.toNat default).fValues)))), (5, .one (.tv (.int .i64 k5_2)))] [] 0 [] [] false
noncomputable def S1 (dimsa0_0 : (List api_Dimension)) (i3_1 : Int) : St E :=
  mkSt 76 76 [(0, .one (.tv (.sl (.st .api_Dimension) dimsa0_0))), (3, .one (.tv (.int .i64 i3_1)))] [] 0 [] [] false
noncomputable def K (M : Nat) : Cont E Bool := kRet (C51 M) Try.f51.results.toList rs ex
noncomputable abbrev zA (M : Nat) (ZL : List Dir → Option (Ut)) (q : List Dir) : Ut := zAt (C51 M) (H M) M 0 ZL body plans (K M) q
noncomputable abbrev lA (M : Nat) (ZL : List Dir → Option (Ut)) (q : List Dir) (k : Nat) : Ut := lpAt (C51 M) (H M) M 0 ZL body plans (K M) q k
noncomputable abbrev gA (M : Nat) (Z : Zt) (q : List Dir) : Ut := seg (C51 M) (H M) 0 Z body plans (K M) q
set_option maxRecDepth 100000
theorem g4 (M : Nat) (Z : Zt) (dimsa0_0 : (List api_Dimension)) (i3_1 : Int) (k6_4 : Int) : gA M Z Qt4 (S4 dimsa0_0 i3_1 k6_4) = s4 M
    (fun dimsa0_0 i3_1 => Z Qt1 (S1 dimsa0_0 i3_1))
    (fun dimsa0_0 i3_1 k6_4 => Z Qt4 (S4 dimsa0_0 i3_1 k6_4)) dimsa0_0 i3_1 k6_4 := by kernel_rfl
theorem g3 (M : Nat) (Z : Zt) (dimsa0_0 : (List api_Dimension)) (i3_1 : Int) : gA M Z Qt3 (S3 dimsa0_0 i3_1) = s3 M
    (fun dimsa0_0 i3_1 k6_4 => Z Qt4 (S4 dimsa0_0 i3_1 k6_4)) dimsa0_0 i3_1 := by kernel_rfl
theorem g2 (M : Nat) (Z : Zt) (dimsa0_0 : (List api_Dimension)) (i3_1 : Int) (k5_2 : Int) : gA M Z Qt2 (S2 dimsa0_0 i3_1 k5_2) = s2 M
    (fun dimsa0_0 i3_1 k5_2 => Z Qt2 (S2 dimsa0_0 i3_1 k5_2))
    (fun dimsa0_0 i3_1 => Z Qt3 (S3 dimsa0_0 i3_1)) dimsa0_0 i3_1 k5_2 := by kernel_rfl
theorem g1 (M : Nat) (Z : Zt) (dimsa0_0 : (List api_Dimension)) (i3_1 : Int) : gA M Z Qt1 (S1 dimsa0_0 i3_1) = s1 M
    (fun dimsa0_0 i3_1 k5_2 => Z Qt2 (S2 dimsa0_0 i3_1 k5_2)) dimsa0_0 i3_1 := by kernel_rfl
theorem g (M : Nat) (Z : Zt) (dimsa0_0 : (List api_Dimension)) : runZ (C51 M) (extZ (C51 M) (H M) 0) Z body plans (start (argHs ps dimsa0_0) Try.f51.ntmps 76) (K M) = s M
    (fun dimsa0_0 i3_1 => Z Qt1 (S1 dimsa0_0 i3_1)) dimsa0_0 := by kernel_rfl
theorem el4 (M : Nat) (Z1 : Ut) (h1 : Ht1) (hZ1 : ∀ (dimsa0_0 : (List api_Dimension)) (i3_1 : Int), Z1 (S1 dimsa0_0 i3_1) = h1 dimsa0_0 i3_1) (k : Nat) (dimsa0_0 : (List api_Dimension)) (i3_1 : Int) (k6_4 : Int) : lA M (zlq Qt4 [Z1]) Qt4 k (S4 dimsa0_0 i3_1 k6_4) = l4 M h1 k dimsa0_0 i3_1 k6_4 := by
  induction k generalizing dimsa0_0 i3_1 k6_4 with
  | zero => kernel_rfl
  | succ k ih =>
    refine Eq.trans (b := lA M (zlq Qt4 [Z1, lA M (zlq Qt4 [Z1]) Qt4 k]) Qt4 (k + 1) (S4 dimsa0_0 i3_1 k6_4)) (by kernel_rfl) ?_
    refine (seg_loop (Hok M) 0 Qt4 body plans (K M) _ (S4 dimsa0_0 i3_1 k6_4) (around_zlq _ _ (by kernel_rfl)) (by kernel_rfl) (by kernel_rfl)).trans ?_
    refine (g4 M _ dimsa0_0 i3_1 k6_4).trans ?_
    have x0 := (funext fun dimsa0_0 => funext fun i3_1 => Eq.trans (b := Z1 (S1 dimsa0_0 i3_1)) (by kernel_rfl) (hZ1 dimsa0_0 i3_1) : (fun dimsa0_0 i3_1 => zA M (zlq Qt4 [Z1, lA M (zlq Qt4 [Z1]) Qt4 k]) Qt1 (S1 dimsa0_0 i3_1)) = h1)
    have x1 := (funext fun dimsa0_0 => funext fun i3_1 => funext fun k6_4 => Eq.trans (b := lA M (zlq Qt4 [Z1]) Qt4 k (S4 dimsa0_0 i3_1 k6_4)) (by kernel_rfl) (ih dimsa0_0 i3_1 k6_4) : (fun dimsa0_0 i3_1 k6_4 => zA M (zlq Qt4 [Z1, lA M (zlq Qt4 [Z1]) Qt4 k]) Qt4 (S4 dimsa0_0 i3_1 k6_4)) = l4 M h1 k)
    rw [x0, x1]; rfl
theorem e4 (M : Nat) (Z1 : Ut) (h1 : Ht1) (hZ1 : ∀ (dimsa0_0 : (List api_Dimension)) (i3_1 : Int), Z1 (S1 dimsa0_0 i3_1) = h1 dimsa0_0 i3_1) (dimsa0_0 : (List api_Dimension)) (i3_1 : Int) (k6_4 : Int) : zA M (zlq Qt4 [Z1]) Qt4 (S4 dimsa0_0 i3_1 k6_4) = l4 M h1 M dimsa0_0 i3_1 k6_4 :=
  Eq.trans (b := lA M (zlq Qt4 [Z1]) Qt4 M (S4 dimsa0_0 i3_1 k6_4)) (by kernel_rfl) (el4 M Z1 h1 hZ1 M dimsa0_0 i3_1 k6_4)
theorem e3 (M : Nat) (Z1 : Ut) (h1 : Ht1) (hZ1 : ∀ (dimsa0_0 : (List api_Dimension)) (i3_1 : Int), Z1 (S1 dimsa0_0 i3_1) = h1 dimsa0_0 i3_1) (dimsa0_0 : (List api_Dimension)) (i3_1 : Int) : zA M (zlq Qt3 [Z1]) Qt3 (S3 dimsa0_0 i3_1) = j3 M h1 dimsa0_0 i3_1 := by
  refine (seg_join (Hok M) 0 Qt3 body plans (K M) _ (S3 dimsa0_0 i3_1) (around_zlq _ _ (by kernel_rfl)) (by kernel_rfl)).trans ?_
  refine (g3 M _ dimsa0_0 i3_1).trans ?_
  have x0 := (funext fun dimsa0_0 => funext fun i3_1 => funext fun k6_4 => Eq.trans (b := zA M (zlq Qt4 [Z1]) Qt4 (S4 dimsa0_0 i3_1 k6_4)) (by kernel_rfl) (e4 M Z1 h1 hZ1 dimsa0_0 i3_1 k6_4) : (fun dimsa0_0 i3_1 k6_4 => zA M (zlq Qt3 [Z1]) Qt4 (S4 dimsa0_0 i3_1 k6_4)) = l4 M h1 M)
  rw [x0]; rfl
theorem el2 (M : Nat) (Z1 : Ut) (h1 : Ht1) (hZ1 : ∀ (dimsa0_0 : (List api_Dimension)) (i3_1 : Int), Z1 (S1 dimsa0_0 i3_1) = h1 dimsa0_0 i3_1) (k : Nat) (dimsa0_0 : (List api_Dimension)) (i3_1 : Int) (k5_2 : Int) : lA M (zlq Qt2 [Z1]) Qt2 k (S2 dimsa0_0 i3_1 k5_2) = l2 M h1 k dimsa0_0 i3_1 k5_2 := by
  induction k generalizing dimsa0_0 i3_1 k5_2 with
  | zero => kernel_rfl
  | succ k ih =>
    refine Eq.trans (b := lA M (zlq Qt2 [Z1, lA M (zlq Qt2 [Z1]) Qt2 k]) Qt2 (k + 1) (S2 dimsa0_0 i3_1 k5_2)) (by kernel_rfl) ?_
    refine (seg_loop (Hok M) 0 Qt2 body plans (K M) _ (S2 dimsa0_0 i3_1 k5_2) (around_zlq _ _ (by kernel_rfl)) (by kernel_rfl) (by kernel_rfl)).trans ?_
    refine (g2 M _ dimsa0_0 i3_1 k5_2).trans ?_
    have x0 := (funext fun dimsa0_0 => funext fun i3_1 => funext fun k5_2 => Eq.trans (b := lA M (zlq Qt2 [Z1]) Qt2 k (S2 dimsa0_0 i3_1 k5_2)) (by kernel_rfl) (ih dimsa0_0 i3_1 k5_2) : (fun dimsa0_0 i3_1 k5_2 => zA M (zlq Qt2 [Z1, lA M (zlq Qt2 [Z1]) Qt2 k]) Qt2 (S2 dimsa0_0 i3_1 k5_2)) = l2 M h1 k)
    have x1 := (funext fun dimsa0_0 => funext fun i3_1 => Eq.trans (b := zA M (zlq Qt3 [Z1]) Qt3 (S3 dimsa0_0 i3_1)) (by kernel_rfl) (e3 M Z1 h1 hZ1 dimsa0_0 i3_1) : (fun dimsa0_0 i3_1 => zA M (zlq Qt2 [Z1, lA M (zlq Qt2 [Z1]) Qt2 k]) Qt3 (S3 dimsa0_0 i3_1)) = j3 M h1)
    rw [x0, x1]; rfl
theorem e2 (M : Nat) (Z1 : Ut) (h1 : Ht1) (hZ1 : ∀ (dimsa0_0 : (List api_Dimension)) (i3_1 : Int), Z1 (S1 dimsa0_0 i3_1) = h1 dimsa0_0 i3_1) (dimsa0_0 : (List api_Dimension)) (i3_1 : Int) (k5_2 : Int) : zA M (zlq Qt2 [Z1]) Qt2 (S2 dimsa0_0 i3_1 k5_2) = l2 M h1 M dimsa0_0 i3_1 k5_2 :=
  Eq.trans (b := lA M (zlq Qt2 [Z1]) Qt2 M (S2 dimsa0_0 i3_1 k5_2)) (by kernel_rfl) (el2 M Z1 h1 hZ1 M dimsa0_0 i3_1 k5_2)
theorem el1 (M : Nat) (k : Nat) (dimsa0_0 : (List api_Dimension)) (i3_1 : Int) : lA M (zlq Qt1 []) Qt1 k (S1 dimsa0_0 i3_1) = l1 M k dimsa0_0 i3_1 := by
  induction k generalizing dimsa0_0 i3_1 with
  | zero => kernel_rfl
  | succ k ih =>
    refine Eq.trans (b := lA M (zlq Qt1 [lA M (zlq Qt1 []) Qt1 k]) Qt1 (k + 1) (S1 dimsa0_0 i3_1)) (by kernel_rfl) ?_
    refine (seg_loop (Hok M) 0 Qt1 body plans (K M) _ (S1 dimsa0_0 i3_1) (around_zlq _ _ (by kernel_rfl)) (by kernel_rfl) (by kernel_rfl)).trans ?_
    refine (g1 M _ dimsa0_0 i3_1).trans ?_
    have x0 := (funext fun dimsa0_0 => funext fun i3_1 => funext fun k5_2 => Eq.trans (b := zA M (zlq Qt2 [(lA M (zlq Qt1 []) Qt1 k)]) Qt2 (S2 dimsa0_0 i3_1 k5_2)) (by kernel_rfl) (e2 M (lA M (zlq Qt1 []) Qt1 k) (l1 M k) (fun dimsa0_0 i3_1 => ih dimsa0_0 i3_1) dimsa0_0 i3_1 k5_2) : (fun dimsa0_0 i3_1 k5_2 => zA M (zlq Qt1 [lA M (zlq Qt1 []) Qt1 k]) Qt2 (S2 dimsa0_0 i3_1 k5_2)) = l2 M (l1 M k) M)
    rw [x0]; rfl
theorem e1 (M : Nat) (dimsa0_0 : (List api_Dimension)) (i3_1 : Int) : zA M (zlq Qt1 []) Qt1 (S1 dimsa0_0 i3_1) = l1 M M dimsa0_0 i3_1 :=
  Eq.trans (b := lA M (zlq Qt1 []) Qt1 M (S1 dimsa0_0 i3_1)) (by kernel_rfl) (el1 M M dimsa0_0 i3_1)
theorem run (M : Nat) (dimsa0_0 : (List api_Dimension)) : runF (rs := rs) (C51 M) (X M) M body Try.f51.ntmps 76 Try.f51.results.toList plans ps ex dimsa0_0 = pentaglotref02_Dimensions M dimsa0_0 := by
  refine Eq.trans (b := runC (C51 M) (X M) M body plans (start (argHs ps dimsa0_0) Try.f51.ntmps 76) (K M)) (by kernel_rfl) ?_
  refine (zrun (Hok M) 0 body plans _ (K M) (fun _ => none) fun _ => rfl).symm.trans ?_
  refine (g M _ dimsa0_0).trans ?_
  have x0 := (funext fun dimsa0_0 => funext fun i3_1 => Eq.trans (b := zA M (zlq Qt1 []) Qt1 (S1 dimsa0_0 i3_1)) (by kernel_rfl) (e1 M dimsa0_0 i3_1) : (fun dimsa0_0 i3_1 => zA M (fun _ => none) Qt1 (S1 dimsa0_0 i3_1)) = l1 M M)
  rw [x0]; rfl
noncomputable def sig (M : Nat) : Sig E := { ps := ps, rs := rs, ex := ex, fn := fun x => pentaglotref02_Dimensions M x }
theorem says (M : Nat) : callable Try.prog 51 = true ∧ ∀ x y, (sig M).fn x = some y → Says Try.prog 51 (sig M) x y := by
  refine ⟨by kernel_rfl, fun x y h => ?_⟩
  refine says_of_run (S := sig M) (C := C51 M) (X := X M) (M := M) (q := 76) (plans := plans) (COk_Try) (SigOk_C51 M) (ItOk_C51 M) (by kernel_rfl) (callOk_ext COk_Try (SigOk_C51 M) (ItOk_C51 M) (by kernel_rfl) inl_ok.ok (RSigOk_C51 M) (fun _ => callOk_none) M 1) (Try.func51) (body := body) (by kernel_rfl) (by kernel_rfl) ?_
  exact (run M x).trans h
end pentaglotref02_Dimensions
end Go.Ai.Par
end
set_option linter.unusedVariables false
set_option linter.unusedSectionVars false
noncomputable section
namespace Go.Ai.Par
open Go Go.Ai Go.Proofs
noncomputable def sigs36 (M : Nat) : List (Nat × Sig E) := []
noncomputable def rs36 (M : Nat) : List (Nat × Sig E) := []
noncomputable def its36 (M : Nat) : List (Nat × It E) := []
theorem sigs_ok36 (M : Nat) : SigsOk Try.prog (sigs36 M) := SigsOk.nil
theorem rs_ok36 (M : Nat) : SigsOk Try.prog (rs36 M) := SigsOk.nil
theorem its_ok36 (M : Nat) : ItsOk Try.prog (its36 M) := ItsOk.nil
noncomputable def C36 (M : Nat) : Ctx E := { ti := fun t => tisE.lookup t, sig := fun f => (sigs36 M).lookup f, it := fun f => (its36 M).lookup f, nt := 21 }
theorem SigOk_C36 (M : Nat) : SigOk Try.prog (C36 M) := sigs_ok36 M
theorem RSigOk_C36 (M : Nat) : SigOk Try.prog ({ ti := fun _ => none, sig := fun f => (rs36 M).lookup f } : Ctx E) := rs_ok36 M
theorem ItOk_C36 (M : Nat) : ItOk Try.prog (C36 M) := (its_ok36 M).ok
namespace feature_Get
noncomputable def plans : List (Option (Plan Nm)) := [none, none, some { tmps := [(1, .asis), (8, .asis), (9, .asis), (10, .asis)], boxes := [] }, none, none, none, none, none, none, none, none]
noncomputable abbrev body : Code := bodyOf Try.f36
def ps : List (Ty Nm) := [(.sl (.st .api_Feature)), .str]
def rs : List (Ty Nm) := [.str, .bool]
def ex : List (Option Nat) := [none, none]
noncomputable def inl : List (Nat × Nat × Nat × Inl Nm) := []
theorem inl_ok : InlsOk Try.prog inl := InlsOk.nil
noncomputable def X (M : Nat) : Ext E ((List UInt8) × Bool) := extOf (C36 M) (inlOf inl) (fun f => (rs36 M).lookup f) (fun _ _ _ => none) noX M 1
abbrev Rt := (List UInt8) × Bool
noncomputable def H (M : Nat) : Hd E Rt := hd0 (X M)
theorem Hok (M : Nat) : (H M).ok (C36 M) M := hd0_ok _
abbrev Qt1 : List Dir := [.r, .l, .r, .k]
abbrev Ht1 := (List UInt8) → (List api_Feature) → Int → Option Rt
abbrev Zt := List Dir → St E → Option Rt
abbrev Ut := St E → Option Rt
noncomputable def s1 (M : Nat) (h1 : Ht1) (namea1_0 : (List UInt8)) (ra0_0 : (List api_Feature)) (x10_1 : Int) : Option Rt :=
  cond (decide (x10_1 < (ra0_0.length : Int)))
   (cond (decide (0 ≤ x10_1) && decide (x10_1 < (ra0_0.length : Int)))
     (cond (decide (((ra0_0.getD x10_1.toNat default).fName) = namea1_0))
       (some ((ra0_0.getD x10_1.toNat default).fValue, true))
       (h1 namea1_0 ra0_0 (IntKind.i64.wrap (x10_1 + 1))))
     none)
   (some ([], false))
noncomputable def l1 (M : Nat) : Nat → Ht1
  | 0, _, _, _ => none
  | k + 1, namea1_0, ra0_0, x10_1 => s1 M (l1 M k) namea1_0 ra0_0 x10_1
noncomputable def s (M : Nat) (h1 : Ht1) (ra0_0 : (List api_Feature)) (namea1_0 : (List UInt8)) : Option Rt :=
  h1 namea1_0 ra0_0 0
end feature_Get
noncomputable def feature_Get (M : Nat) (ra0_0 : (List api_Feature)) (namea1_0 : (List UInt8)) : Option ((List UInt8) × Bool) :=
  feature_Get.s M (feature_Get.l1 M M) ra0_0 namea1_0
namespace feature_Get
noncomputable def S1 (namea1_0 : (List UInt8)) (ra0_0 : (List api_Feature)) (x10_1 : Int) : St E :=
  mkSt 21 21 [(1, .one (.tv (.str namea1_0))), (8, .one (.tv (.sl (.st .api_Feature) ra0_0))), (9, .one (.tv (.int .i64 (ra0_0.length : Int)))), (10, .one (.tv (.int .i64 x10_1)))] [] 0 [] [] false
noncomputable def K (M : Nat) : Cont E ((List UInt8) × Bool) := kRet (C36 M) Try.f36.results.toList rs ex
noncomputable abbrev zA (M : Nat) (ZL : List Dir → Option (Ut)) (q : List Dir) : Ut := zAt (C36 M) (H M) M 0 ZL body plans (K M) q
noncomputable abbrev lA (M : Nat) (ZL : List Dir → Option (Ut)) (q : List Dir) (k : Nat) : Ut := lpAt (C36 M) (H M) M 0 ZL body plans (K M) q k
noncomputable abbrev gA (M : Nat) (Z : Zt) (q : List Dir) : Ut := seg (C36 M) (H M) 0 Z body plans (K M) q
set_option maxRecDepth 100000
theorem g1 (M : Nat) (Z : Zt) (namea1_0 : (List UInt8)) (ra0_0 : (List api_Feature)) (x10_1 : Int) : gA M Z Qt1 (S1 namea1_0 ra0_0 x10_1) = s1 M
    (fun namea1_0 ra0_0 x10_1 => Z Qt1 (S1 namea1_0 ra0_0 x10_1)) namea1_0 ra0_0 x10_1 := by kernel_rfl
theorem g (M : Nat) (Z : Zt) (ra0_0 : (List api_Feature)) (namea1_0 : (List UInt8)) : runZ (C36 M) (extZ (C36 M) (H M) 0) Z body plans (start (argHs ps (ra0_0, namea1_0)) Try.f36.ntmps 21) (K M) = s M
    (fun namea1_0 ra0_0 x10_1 => Z Qt1 (S1 namea1_0 ra0_0 x10_1)) ra0_0 namea1_0 := by kernel_rfl
theorem el1 (M : Nat) (k : Nat) (namea1_0 : (List UInt8)) (ra0_0 : (List api_Feature)) (x10_1 : Int) : lA M (zlq Qt1 []) Qt1 k (S1 namea1_0 ra0_0 x10_1) = l1 M k namea1_0 ra0_0 x10_1 := by
  induction k generalizing namea1_0 ra0_0 x10_1 with
  | zero => kernel_rfl
  | succ k ih =>
    refine Eq.trans (b := lA M (zlq Qt1 [lA M (zlq Qt1 []) Qt1 k]) Qt1 (k + 1) (S1 namea1_0 ra0_0 x10_1)) (by kernel_rfl) ?_
    refine (seg_loop (Hok M) 0 Qt1 body plans (K M) _ (S1 namea1_0 ra0_0 x10_1) (around_zlq _ _ (by kernel_rfl)) (by kernel_rfl) (by kernel_rfl)).trans ?_
    refine (g1 M _ namea1_0 ra0_0 x10_1).trans ?_
    have x0 := (funext fun namea1_0 => funext fun ra0_0 => funext fun x10_1 => Eq.trans (b := lA M (zlq Qt1 []) Qt1 k (S1 namea1_0 ra0_0 x10_1)) (by kernel_rfl) (ih namea1_0 ra0_0 x10_1) : (fun namea1_0 ra0_0 x10_1 => zA M (zlq Qt1 [lA M (zlq Qt1 []) Qt1 k]) Qt1 (S1 namea1_0 ra0_0 x10_1)) = l1 M k)
    rw [x0]; rfl
theorem e1 (M : Nat) (namea1_0 : (List UInt8)) (ra0_0 : (List api_Feature)) (x10_1 : Int) : zA M (zlq Qt1 []) Qt1 (S1 namea1_0 ra0_0 x10_1) = l1 M M namea1_0 ra0_0 x10_1 :=
  Eq.trans (b := lA M (zlq Qt1 []) Qt1 M (S1 namea1_0 ra0_0 x10_1)) (by kernel_rfl) (el1 M M namea1_0 ra0_0 x10_1)
theorem run (M : Nat) (ra0_0 : (List api_Feature)) (namea1_0 : (List UInt8)) : runF (rs := rs) (C36 M) (X M) M body Try.f36.ntmps 21 Try.f36.results.toList plans ps ex (ra0_0, namea1_0) = feature_Get M ra0_0 namea1_0 := by
  refine Eq.trans (b := runC (C36 M) (X M) M body plans (start (argHs ps (ra0_0, namea1_0)) Try.f36.ntmps 21) (K M)) (by kernel_rfl) ?_
  refine (zrun (Hok M) 0 body plans _ (K M) (fun _ => none) fun _ => rfl).symm.trans ?_
  refine (g M _ ra0_0 namea1_0).trans ?_
  have x0 := (funext fun namea1_0 => funext fun ra0_0 => funext fun x10_1 => Eq.trans (b := zA M (zlq Qt1 []) Qt1 (S1 namea1_0 ra0_0 x10_1)) (by kernel_rfl) (e1 M namea1_0 ra0_0 x10_1) : (fun namea1_0 ra0_0 x10_1 => zA M (fun _ => none) Qt1 (S1 namea1_0 ra0_0 x10_1)) = l1 M M)
  rw [x0]; rfl
noncomputable def sig (M : Nat) : Sig E := { ps := ps, rs := rs, ex := ex, fn := fun x => feature_Get M x.1 x.2 }
theorem says (M : Nat) : callable Try.prog 36 = true ∧ ∀ x y, (sig M).fn x = some y → Says Try.prog 36 (sig M) x y := by
  refine ⟨by kernel_rfl, fun x y h => ?_⟩
  refine says_of_run (S := sig M) (C := C36 M) (X := X M) (M := M) (q := 21) (plans := plans) (COk_Try) (SigOk_C36 M) (ItOk_C36 M) (by kernel_rfl) (callOk_ext COk_Try (SigOk_C36 M) (ItOk_C36 M) (by kernel_rfl) inl_ok.ok (RSigOk_C36 M) (fun _ => callOk_none) M 1) (Try.func36) (body := body) (by kernel_rfl) (by kernel_rfl) ?_
  obtain ⟨ra0_0, namea1_0⟩ := x
  exact (run M ra0_0 namea1_0).trans h
end feature_Get
end Go.Ai.Par
end
set_option linter.unusedVariables false
set_option linter.unusedSectionVars false
noncomputable section
namespace Go.Ai.Par
open Go Go.Ai Go.Proofs
noncomputable def sigs61 (M : Nat) : List (Nat × Sig E) := []
noncomputable def rs61 (M : Nat) : List (Nat × Sig E) := []
noncomputable def its61 (M : Nat) : List (Nat × It E) := []
theorem sigs_ok61 (M : Nat) : SigsOk Try.prog (sigs61 M) := SigsOk.nil
theorem rs_ok61 (M : Nat) : SigsOk Try.prog (rs61 M) := SigsOk.nil
theorem its_ok61 (M : Nat) : ItsOk Try.prog (its61 M) := ItsOk.nil
noncomputable def C61 (M : Nat) : Ctx E := { ti := fun t => tisE.lookup t, sig := fun f => (sigs61 M).lookup f, it := fun f => (its61 M).lookup f, nt := 20 }
theorem SigOk_C61 (M : Nat) : SigOk Try.prog (C61 M) := sigs_ok61 M
theorem RSigOk_C61 (M : Nat) : SigOk Try.prog ({ ti := fun _ => none, sig := fun f => (rs61 M).lookup f } : Ctx E) := rs_ok61 M
theorem ItOk_C61 (M : Nat) : ItOk Try.prog (C61 M) := (its_ok61 M).ok
namespace pentaglotref02_Index
noncomputable def plans : List (Option (Plan Nm)) := [none, none, some { tmps := [(0, .asis), (1, .asis), (5, .asis)], boxes := [] }, none, none, none, none, none, none, none]
noncomputable abbrev body : Code := bodyOf Try.f61
def ps : List (Ty Nm) := [(.sl (.st .api_Feature)), .str]
def rs : List (Ty Nm) := [(.int .i64)]
def ex : List (Option Nat) := [none]
noncomputable def inl : List (Nat × Nat × Nat × Inl Nm) := []
theorem inl_ok : InlsOk Try.prog inl := InlsOk.nil
noncomputable def X (M : Nat) : Ext E Int := extOf (C61 M) (inlOf inl) (fun f => (rs61 M).lookup f) (fun _ _ _ => none) noX M 1
abbrev Rt := Int
noncomputable def H (M : Nat) : Hd E Rt := hd0 (X M)
theorem Hok (M : Nat) : (H M).ok (C61 M) M := hd0_ok _
abbrev Qt1 : List Dir := [.r, .l, .r, .k]
abbrev Ht1 := (List UInt8) → (List api_Feature) → Int → Option Rt
abbrev Zt := List Dir → St E → Option Rt
abbrev Ut := St E → Option Rt
noncomputable def s1 (M : Nat) (h1 : Ht1) (namea1_0 : (List UInt8)) (ra0_0 : (List api_Feature)) (i5_1 : Int) : Option Rt :=
  cond (decide (i5_1 < (ra0_0.length : Int)))
   (cond (decide (0 ≤ i5_1) && decide (i5_1 < (ra0_0.length : Int)))
     (cond (decide (((ra0_0.getD i5_1.toNat default).fName) = namea1_0))
       (some i5_1)
       (h1 namea1_0 ra0_0 (IntKind.i64.wrap (i5_1 + 1))))
     none)
   (some (-1))
noncomputable def l1 (M : Nat) : Nat → Ht1
  | 0, _, _, _ => none
  | k + 1, namea1_0, ra0_0, i5_1 => s1 M (l1 M k) namea1_0 ra0_0 i5_1
noncomputable def s (M : Nat) (h1 : Ht1) (ra0_0 : (List api_Feature)) (namea1_0 : (List UInt8)) : Option Rt :=
  h1 namea1_0 ra0_0 0
end pentaglotref02_Index
noncomputable def pentaglotref02_Index (M : Nat) (ra0_0 : (List api_Feature)) (namea1_0 : (List UInt8)) : Option Int :=
  pentaglotref02_Index.s M (pentaglotref02_Index.l1 M M) ra0_0 namea1_0
namespace pentaglotref02_Index
noncomputable def S1 (namea1_0 : (List UInt8)) (ra0_0 : (List api_Feature)) (i5_1 : Int) : St E :=
  mkSt 20 20 [(0, .one (.tv (.sl (.st .api_Feature) ra0_0))), (1, .one (.tv (.str namea1_0))), (5, .one (.tv (.int .i64 i5_1)))] [] 0 [] [] false
noncomputable def K (M : Nat) : Cont E Int := kRet (C61 M) Try.f61.results.toList rs ex
noncomputable abbrev zA (M : Nat) (ZL : List Dir → Option (Ut)) (q : List Dir) : Ut := zAt (C61 M) (H M) M 0 ZL body plans (K M) q
noncomputable abbrev lA (M : Nat) (ZL : List Dir → Option (Ut)) (q : List Dir) (k : Nat) : Ut := lpAt (C61 M) (H M) M 0 ZL body plans (K M) q k
noncomputable abbrev gA (M : Nat) (Z : Zt) (q : List Dir) : Ut := seg (C61 M) (H M) 0 Z body plans (K M) q
set_option maxRecDepth 100000
theorem g1 (M : Nat) (Z : Zt) (namea1_0 : (List UInt8)) (ra0_0 : (List api_Feature)) (i5_1 : Int) : gA M Z Qt1 (S1 namea1_0 ra0_0 i5_1) = s1 M
    (fun namea1_0 ra0_0 i5_1 => Z Qt1 (S1 namea1_0 ra0_0 i5_1)) namea1_0 ra0_0 i5_1 := by kernel_rfl
theorem g (M : Nat) (Z : Zt) (ra0_0 : (List api_Feature)) (namea1_0 : (List UInt8)) : runZ (C61 M) (extZ (C61 M) (H M) 0) Z body plans (start (argHs ps (ra0_0, namea1_0)) Try.f61.ntmps 20) (K M) = s M
    (fun namea1_0 ra0_0 i5_1 => Z Qt1 (S1 namea1_0 ra0_0 i5_1)) ra0_0 namea1_0 := by kernel_rfl
theorem el1 (M : Nat) (k : Nat) (namea1_0 : (List UInt8)) (ra0_0 : (List api_Feature)) (i5_1 : Int) : lA M (zlq Qt1 []) Qt1 k (S1 namea1_0 ra0_0 i5_1) = l1 M k namea1_0 ra0_0 i5_1 := by
  induction k generalizing namea1_0 ra0_0 i5_1 with
  | zero => kernel_rfl
  | succ k ih =>
    refine Eq.trans (b := lA M (zlq Qt1 [lA M (zlq Qt1 []) Qt1 k]) Qt1 (k + 1) (S1 namea1_0 ra0_0 i5_1)) (by kernel_rfl) ?_
    refine (seg_loop (Hok M) 0 Qt1 body plans (K M) _ (S1 namea1_0 ra0_0 i5_1) (around_zlq _ _ (by kernel_rfl)) (by kernel_rfl) (by kernel_rfl)).trans ?_
    refine (g1 M _ namea1_0 ra0_0 i5_1).trans ?_
    have x0 := (funext fun namea1_0 => funext fun ra0_0 => funext fun i5_1 => Eq.trans (b := lA M (zlq Qt1 []) Qt1 k (S1 namea1_0 ra0_0 i5_1)) (by kernel_rfl) (ih namea1_0 ra0_0 i5_1) : (fun namea1_0 ra0_0 i5_1 => zA M (zlq Qt1 [lA M (zlq Qt1 []) Qt1 k]) Qt1 (S1 namea1_0 ra0_0 i5_1)) = l1 M k)
    rw [x0]; rfl
theorem e1 (M : Nat) (namea1_0 : (List UInt8)) (ra0_0 : (List api_Feature)) (i5_1 : Int) : zA M (zlq Qt1 []) Qt1 (S1 namea1_0 ra0_0 i5_1) = l1 M M namea1_0 ra0_0 i5_1 :=
  Eq.trans (b := lA M (zlq Qt1 []) Qt1 M (S1 namea1_0 ra0_0 i5_1)) (by kernel_rfl) (el1 M M namea1_0 ra0_0 i5_1)
theorem run (M : Nat) (ra0_0 : (List api_Feature)) (namea1_0 : (List UInt8)) : runF (rs := rs) (C61 M) (X M) M body Try.f61.ntmps 20 Try.f61.results.toList plans ps ex (ra0_0, namea1_0) = pentaglotref02_Index M ra0_0 namea1_0 := by
  refine Eq.trans (b := runC (C61 M) (X M) M body plans (start (argHs ps (ra0_0, namea1_0)) Try.f61.ntmps 20) (K M)) (by kernel_rfl) ?_
  refine (zrun (Hok M) 0 body plans _ (K M) (fun _ => none) fun _ => rfl).symm.trans ?_
  refine (g M _ ra0_0 namea1_0).trans ?_
  have x0 := (funext fun namea1_0 => funext fun ra0_0 => funext fun i5_1 => Eq.trans (b := zA M (zlq Qt1 []) Qt1 (S1 namea1_0 ra0_0 i5_1)) (by kernel_rfl) (e1 M namea1_0 ra0_0 i5_1) : (fun namea1_0 ra0_0 i5_1 => zA M (fun _ => none) Qt1 (S1 namea1_0 ra0_0 i5_1)) = l1 M M)
  rw [x0]; rfl
noncomputable def sig (M : Nat) : Sig E := { ps := ps, rs := rs, ex := ex, fn := fun x => pentaglotref02_Index M x.1 x.2 }
theorem says (M : Nat) : callable Try.prog 61 = true ∧ ∀ x y, (sig M).fn x = some y → Says Try.prog 61 (sig M) x y := by
  refine ⟨by kernel_rfl, fun x y h => ?_⟩
  refine says_of_run (S := sig M) (C := C61 M) (X := X M) (M := M) (q := 20) (plans := plans) (COk_Try) (SigOk_C61 M) (ItOk_C61 M) (by kernel_rfl) (callOk_ext COk_Try (SigOk_C61 M) (ItOk_C61 M) (by kernel_rfl) inl_ok.ok (RSigOk_C61 M) (fun _ => callOk_none) M 1) (Try.func61) (body := body) (by kernel_rfl) (by kernel_rfl) ?_
  obtain ⟨ra0_0, namea1_0⟩ := x
  exact (run M ra0_0 namea1_0).trans h
end pentaglotref02_Index
end Go.Ai.Par
end
set_option linter.unusedVariables false
set_option linter.unusedSectionVars false
noncomputable section
namespace Go.Ai.Par
open Go Go.Ai Go.Proofs
noncomputable def sigs17 (M : Nat) : List (Nat × Sig E) := []
noncomputable def rs17 (M : Nat) : List (Nat × Sig E) := []
noncomputable def its17 (M : Nat) : List (Nat × It E) := []
theorem sigs_ok17 (M : Nat) : SigsOk Try.prog (sigs17 M) := SigsOk.nil
theorem rs_ok17 (M : Nat) : SigsOk Try.prog (rs17 M) := SigsOk.nil
theorem its_ok17 (M : Nat) : ItsOk Try.prog (its17 M) := ItsOk.nil
noncomputable def C17 (M : Nat) : Ctx E := { ti := fun t => tisE.lookup t, sig := fun f => (sigs17 M).lookup f, it := fun f => (its17 M).lookup f, nt := 26 }
theorem SigOk_C17 (M : Nat) : SigOk Try.prog (C17 M) := sigs_ok17 M
theorem RSigOk_C17 (M : Nat) : SigOk Try.prog ({ ti := fun _ => none, sig := fun f => (rs17 M).lookup f } : Ctx E) := rs_ok17 M
theorem ItOk_C17 (M : Nat) : ItOk Try.prog (C17 M) := (its_ok17 M).ok
namespace pentaglotref02_Same
noncomputable def plans : List (Option (Plan Nm)) := [none, none, none, none, none, some { tmps := [(0, .asis), (1, .asis), (5, .asis)], boxes := [] }, none, none, none, none, none, none, none]
noncomputable abbrev body : Code := bodyOf Try.f17
def ps : List (Ty Nm) := [(.sl (.st .api_Feature)), (.sl (.st .api_Feature))]
def rs : List (Ty Nm) := [.bool]
def ex : List (Option Nat) := [none]
noncomputable def inl : List (Nat × Nat × Nat × Inl Nm) := []
theorem inl_ok : InlsOk Try.prog inl := InlsOk.nil
noncomputable def X (M : Nat) : Ext E Bool := extOf (C17 M) (inlOf inl) (fun f => (rs17 M).lookup f) (fun _ _ _ => none) noX M 1
abbrev Rt := Bool
noncomputable def H (M : Nat) : Hd E Rt := hd0 (X M)
theorem Hok (M : Nat) : (H M).ok (C17 M) M := hd0_ok _
abbrev Qt1 : List Dir := [.r, .r, .l, .r, .k]
abbrev Ht1 := (List api_Feature) → (List api_Feature) → Int → Option Rt
abbrev Zt := List Dir → St E → Option Rt
abbrev Ut := St E → Option Rt
noncomputable def s1 (M : Nat) (h1 : Ht1) (aa0_0 : (List api_Feature)) (ba1_0 : (List api_Feature)) (i5_1 : Int) : Option Rt :=
  cond (decide (i5_1 < (aa0_0.length : Int)))
   (cond (decide (0 ≤ i5_1) && decide (i5_1 < (aa0_0.length : Int)))
     (cond (decide (0 ≤ i5_1) && decide (i5_1 < (ba1_0.length : Int)))
       (cond (!(decide (((aa0_0.getD i5_1.toNat default).fName) = ((ba1_0.getD i5_1.toNat default).fName)) && (decide (((aa0_0.getD i5_1.toNat default).fValue) = ((ba1_0.getD i5_1.toNat default).fValue)) && true)))
         (some false)
         (h1 aa0_0 ba1_0 (IntKind.i64.wrap (i5_1 + 1))))
       none)
     none)
   (some true)
noncomputable def l1 (M : Nat) : Nat → Ht1
  | 0, _, _, _ => none
  | k + 1, aa0_0, ba1_0, i5_1 => s1 M (l1 M k) aa0_0 ba1_0 i5_1
noncomputable def s (M : Nat) (h1 : Ht1) (aa0_0 : (List api_Feature)) (ba1_0 : (List api_Feature)) : Option Rt :=
  cond (!decide ((aa0_0.length : Int) = (ba1_0.length : Int)))
   (some false)
   (h1 aa0_0 ba1_0 0)
end pentaglotref02_Same
noncomputable def pentaglotref02_Same (M : Nat) (aa0_0 : (List api_Feature)) (ba1_0 : (List api_Feature)) : Option Bool :=
  pentaglotref02_Same.s M (pentaglotref02_Same.l1 M M) aa0_0 ba1_0
namespace pentaglotref02_Same
noncomputable def S1 (aa0_0 : (List api_Feature)) (ba1_0 : (List api_Feature)) (i5_1 : Int) : St E :=
  mkSt 26 26 [(0, .one (.tv (.sl (.st .api_Feature) aa0_0))), (1, .one (.tv (.sl (.st .api_Feature) ba1_0))), (5, .one (.tv (.int .i64 i5_1)))] [] 0 [] [] false
noncomputable def K (M : Nat) : Cont E Bool := kRet (C17 M) Try.f17.results.toList rs ex
noncomputable abbrev zA (M : Nat) (ZL : List Dir → Option (Ut)) (q : List Dir) : Ut := zAt (C17 M) (H M) M 0 ZL body plans (K M) q
noncomputable abbrev lA (M : Nat) (ZL : List Dir → Option (Ut)) (q : List Dir) (k : Nat) : Ut := lpAt (C17 M) (H M) M 0 ZL body plans (K M) q k
noncomputable abbrev gA (M : Nat) (Z : Zt) (q : List Dir) : Ut := seg (C17 M) (H M) 0 Z body plans (K M) q
set_option maxRecDepth 100000
theorem g1 (M : Nat) (Z : Zt) (aa0_0 : (List api_Feature)) (ba1_0 : (List api_Feature)) (i5_1 : Int) : gA M Z Qt1 (S1 aa0_0 ba1_0 i5_1) = s1 M
    (fun aa0_0 ba1_0 i5_1 => Z Qt1 (S1 aa0_0 ba1_0 i5_1)) aa0_0 ba1_0 i5_1 := by kernel_rfl
theorem g (M : Nat) (Z : Zt) (aa0_0 : (List api_Feature)) (ba1_0 : (List api_Feature)) : runZ (C17 M) (extZ (C17 M) (H M) 0) Z body plans (start (argHs ps (aa0_0, ba1_0)) Try.f17.ntmps 26) (K M) = s M
    (fun aa0_0 ba1_0 i5_1 => Z Qt1 (S1 aa0_0 ba1_0 i5_1)) aa0_0 ba1_0 := by kernel_rfl
theorem el1 (M : Nat) (k : Nat) (aa0_0 : (List api_Feature)) (ba1_0 : (List api_Feature)) (i5_1 : Int) : lA M (zlq Qt1 []) Qt1 k (S1 aa0_0 ba1_0 i5_1) = l1 M k aa0_0 ba1_0 i5_1 := by
  induction k generalizing aa0_0 ba1_0 i5_1 with
  | zero => kernel_rfl
  | succ k ih =>
    refine Eq.trans (b := lA M (zlq Qt1 [lA M (zlq Qt1 []) Qt1 k]) Qt1 (k + 1) (S1 aa0_0 ba1_0 i5_1)) (by kernel_rfl) ?_
    refine (seg_loop (Hok M) 0 Qt1 body plans (K M) _ (S1 aa0_0 ba1_0 i5_1) (around_zlq _ _ (by kernel_rfl)) (by kernel_rfl) (by kernel_rfl)).trans ?_
    refine (g1 M _ aa0_0 ba1_0 i5_1).trans ?_
    have x0 := (funext fun aa0_0 => funext fun ba1_0 => funext fun i5_1 => Eq.trans (b := lA M (zlq Qt1 []) Qt1 k (S1 aa0_0 ba1_0 i5_1)) (by kernel_rfl) (ih aa0_0 ba1_0 i5_1) : (fun aa0_0 ba1_0 i5_1 => zA M (zlq Qt1 [lA M (zlq Qt1 []) Qt1 k]) Qt1 (S1 aa0_0 ba1_0 i5_1)) = l1 M k)
    rw [x0]; rfl
theorem e1 (M : Nat) (aa0_0 : (List api_Feature)) (ba1_0 : (List api_Feature)) (i5_1 : Int) : zA M (zlq Qt1 []) Qt1 (S1 aa0_0 ba1_0 i5_1) = l1 M M aa0_0 ba1_0 i5_1 :=
  Eq.trans (b := lA M (zlq Qt1 []) Qt1 M (S1 aa0_0 ba1_0 i5_1)) (by kernel_rfl) (el1 M M aa0_0 ba1_0 i5_1)
theorem run (M : Nat) (aa0_0 : (List api_Feature)) (ba1_0 : (List api_Feature)) : runF (rs := rs) (C17 M) (X M) M body Try.f17.ntmps 26 Try.f17.results.toList plans ps ex (aa0_0, ba1_0) = pentaglotref02_Same M aa0_0 ba1_0 := by
  refine Eq.trans (b := runC (C17 M) (X M) M body plans (start (argHs ps (aa0_0, ba1_0)) Try.f17.ntmps 26) (K M)) (by kernel_rfl) ?_
  refine (zrun (Hok M) 0 body plans _ (K M) (fun _ => none) fun _ => rfl).symm.trans ?_
  refine (g M _ aa0_0 ba1_0).trans ?_
  have x0 := (funext fun aa0_0 => funext fun ba1_0 => funext fun i5_1 => Eq.trans (b := zA M (zlq Qt1 []) Qt1 (S1 aa0_0 ba1_0 i5_1)) (by kernel_rfl) (e1 M aa0_0 ba1_0 i5_1) : (fun aa0_0 ba1_0 i5_1 => zA M (fun _ => none) Qt1 (S1 aa0_0 ba1_0 i5_1)) = l1 M M)
  rw [x0]; rfl
noncomputable def sig (M : Nat) : Sig E := { ps := ps, rs := rs, ex := ex, fn := fun x => pentaglotref02_Same M x.1 x.2 }
theorem says (M : Nat) : callable Try.prog 17 = true ∧ ∀ x y, (sig M).fn x = some y → Says Try.prog 17 (sig M) x y := by
  refine ⟨by kernel_rfl, fun x y h => ?_⟩
  refine says_of_run (S := sig M) (C := C17 M) (X := X M) (M := M) (q := 26) (plans := plans) (COk_Try) (SigOk_C17 M) (ItOk_C17 M) (by kernel_rfl) (callOk_ext COk_Try (SigOk_C17 M) (ItOk_C17 M) (by kernel_rfl) inl_ok.ok (RSigOk_C17 M) (fun _ => callOk_none) M 1) (Try.func17) (body := body) (by kernel_rfl) (by kernel_rfl) ?_
  obtain ⟨aa0_0, ba1_0⟩ := x
  exact (run M aa0_0 ba1_0).trans h
end pentaglotref02_Same
end Go.Ai.Par
end
set_option linter.unusedVariables false
set_option linter.unusedSectionVars false
noncomputable section
namespace Go.Ai.Par
open Go Go.Ai Go.Proofs
noncomputable def sigs22 (M : Nat) : List (Nat × Sig E) := []
noncomputable def rs22 (M : Nat) : List (Nat × Sig E) := []
noncomputable def its22 (M : Nat) : List (Nat × It E) := []
theorem sigs_ok22 (M : Nat) : SigsOk Try.prog (sigs22 M) := SigsOk.nil
theorem rs_ok22 (M : Nat) : SigsOk Try.prog (rs22 M) := SigsOk.nil
theorem its_ok22 (M : Nat) : ItsOk Try.prog (its22 M) := ItsOk.nil
noncomputable def C22 (M : Nat) : Ctx E := { ti := fun t => tisE.lookup t, sig := fun f => (sigs22 M).lookup f, it := fun f => (its22 M).lookup f, nt := 22 }
theorem SigOk_C22 (M : Nat) : SigOk Try.prog (C22 M) := sigs_ok22 M
theorem RSigOk_C22 (M : Nat) : SigOk Try.prog ({ ti := fun _ => none, sig := fun f => (rs22 M).lookup f } : Ctx E) := rs_ok22 M
theorem ItOk_C22 (M : Nat) : ItOk Try.prog (C22 M) := (its_ok22 M).ok
namespace pentaglotref02_Record
noncomputable def plans : List (Option (Plan Nm)) := [none, none, some { tmps := [(0, .asis), (3, .asis)], boxes := [] }, none, none, none, none, none, none, none]
noncomputable abbrev body : Code := bodyOf Try.f22
def ps : List (Ty Nm) := [(.sl (.st .api_Feature))]
def rs : List (Ty Nm) := [.bool]
def ex : List (Option Nat) := [none]
noncomputable def inl : List (Nat × Nat × Nat × Inl Nm) := []
theorem inl_ok : InlsOk Try.prog inl := InlsOk.nil
noncomputable def X (M : Nat) : Ext E Bool := extOf (C22 M) (inlOf inl) (fun f => (rs22 M).lookup f) (fun _ _ _ => none) noX M 1
abbrev Rt := Bool
noncomputable def H (M : Nat) : Hd E Rt := hd0 (X M)
theorem Hok (M : Nat) : (H M).ok (C22 M) M := hd0_ok _
abbrev Qt1 : List Dir := [.r, .l, .r, .k]
abbrev Ht1 := (List api_Feature) → Int → Option Rt
abbrev Zt := List Dir → St E → Option Rt
abbrev Ut := St E → Option Rt
noncomputable def s1 (M : Nat) (h1 : Ht1) (ra0_0 : (List api_Feature)) (i3_1 : Int) : Option Rt :=
  cond (decide (i3_1 < (ra0_0.length : Int)))
   (cond (decide (0 ≤ IntKind.i64.wrap (i3_1 - 1)) && decide (IntKind.i64.wrap (i3_1 - 1) < (ra0_0.length : Int)))
     (cond (decide (0 ≤ i3_1) && decide (i3_1 < (ra0_0.length : Int)))
       (cond (!(Op.bytesLess ((ra0_0.getD (IntKind.i64.wrap (i3_1 - 1)).toNat default).fName) ((ra0_0.getD i3_1.toNat default).fName)))
         (some false)
         (h1 ra0_0 (IntKind.i64.wrap (i3_1 + 1))))
       none)
     none)
   (some true)
noncomputable def l1 (M : Nat) : Nat → Ht1
  | 0, _, _ => none
  | k + 1, ra0_0, i3_1 => s1 M (l1 M k) ra0_0 i3_1
noncomputable def s (M : Nat) (h1 : Ht1) (ra0_0 : (List api_Feature)) : Option Rt :=
  h1 ra0_0 1
end pentaglotref02_Record
noncomputable def pentaglotref02_Record (M : Nat) (ra0_0 : (List api_Feature)) : Option Bool :=
  pentaglotref02_Record.s M (pentaglotref02_Record.l1 M M) ra0_0
namespace pentaglotref02_Record
noncomputable def S1 (ra0_0 : (List api_Feature)) (i3_1 : Int) : St E :=
  mkSt 22 22 [(0, .one (.tv (.sl (.st .api_Feature) ra0_0))), (3, .one (.tv (.int .i64 i3_1)))] [] 0 [] [] false
noncomputable def K (M : Nat) : Cont E Bool := kRet (C22 M) Try.f22.results.toList rs ex
noncomputable abbrev zA (M : Nat) (ZL : List Dir → Option (Ut)) (q : List Dir) : Ut := zAt (C22 M) (H M) M 0 ZL body plans (K M) q
noncomputable abbrev lA (M : Nat) (ZL : List Dir → Option (Ut)) (q : List Dir) (k : Nat) : Ut := lpAt (C22 M) (H M) M 0 ZL body plans (K M) q k
noncomputable abbrev gA (M : Nat) (Z : Zt) (q : List Dir) : Ut := seg (C22 M) (H M) 0 Z body plans (K M) q
set_option maxRecDepth 100000
theorem g1 (M : Nat) (Z : Zt) (ra0_0 : (List api_Feature)) (i3_1 : Int) : gA M Z Qt1 (S1 ra0_0 i3_1) = s1 M
    (fun ra0_0 i3_1 => Z Qt1 (S1 ra0_0 i3_1)) ra0_0 i3_1 := by kernel_rfl
theorem g (M : Nat) (Z : Zt) (ra0_0 : (List api_Feature)) : runZ (C22 M) (extZ (C22 M) (H M) 0) Z body plans (start (argHs ps ra0_0) Try.f22.ntmps 22) (K M) = s M
    (fun ra0_0 i3_1 => Z Qt1 (S1 ra0_0 i3_1)) ra0_0 := by kernel_rfl
theorem el1 (M : Nat) (k : Nat) (ra0_0 : (List api_Feature)) (i3_1 : Int) : lA M (zlq Qt1 []) Qt1 k (S1 ra0_0 i3_1) = l1 M k ra0_0 i3_1 := by
  induction k generalizing ra0_0 i3_1 with
  | zero => kernel_rfl
  | succ k ih =>
    refine Eq.trans (b := lA M (zlq Qt1 [lA M (zlq Qt1 []) Qt1 k]) Qt1 (k + 1) (S1 ra0_0 i3_1)) (by kernel_rfl) ?_
    refine (seg_loop (Hok M) 0 Qt1 body plans (K M) _ (S1 ra0_0 i3_1) (around_zlq _ _ (by kernel_rfl)) (by kernel_rfl) (by kernel_rfl)).trans ?_
    refine (g1 M _ ra0_0 i3_1).trans ?_
    have x0 := (funext fun ra0_0 => funext fun i3_1 => Eq.trans (b := lA M (zlq Qt1 []) Qt1 k (S1 ra0_0 i3_1)) (by kernel_rfl) (ih ra0_0 i3_1) : (fun ra0_0 i3_1 => zA M (zlq Qt1 [lA M (zlq Qt1 []) Qt1 k]) Qt1 (S1 ra0_0 i3_1)) = l1 M k)
    rw [x0]; rfl
theorem e1 (M : Nat) (ra0_0 : (List api_Feature)) (i3_1 : Int) : zA M (zlq Qt1 []) Qt1 (S1 ra0_0 i3_1) = l1 M M ra0_0 i3_1 :=
  Eq.trans (b := lA M (zlq Qt1 []) Qt1 M (S1 ra0_0 i3_1)) (by kernel_rfl) (el1 M M ra0_0 i3_1)
theorem run (M : Nat) (ra0_0 : (List api_Feature)) : runF (rs := rs) (C22 M) (X M) M body Try.f22.ntmps 22 Try.f22.results.toList plans ps ex ra0_0 = pentaglotref02_Record M ra0_0 := by
  refine Eq.trans (b := runC (C22 M) (X M) M body plans (start (argHs ps ra0_0) Try.f22.ntmps 22) (K M)) (by kernel_rfl) ?_
  refine (zrun (Hok M) 0 body plans _ (K M) (fun _ => none) fun _ => rfl).symm.trans ?_
  refine (g M _ ra0_0).trans ?_
  have x0 := (funext fun ra0_0 => funext fun i3_1 => Eq.trans (b := zA M (zlq Qt1 []) Qt1 (S1 ra0_0 i3_1)) (by kernel_rfl) (e1 M ra0_0 i3_1) : (fun ra0_0 i3_1 => zA M (fun _ => none) Qt1 (S1 ra0_0 i3_1)) = l1 M M)
  rw [x0]; rfl
noncomputable def sig (M : Nat) : Sig E := { ps := ps, rs := rs, ex := ex, fn := fun x => pentaglotref02_Record M x }
theorem says (M : Nat) : callable Try.prog 22 = true ∧ ∀ x y, (sig M).fn x = some y → Says Try.prog 22 (sig M) x y := by
  refine ⟨by kernel_rfl, fun x y h => ?_⟩
  refine says_of_run (S := sig M) (C := C22 M) (X := X M) (M := M) (q := 22) (plans := plans) (COk_Try) (SigOk_C22 M) (ItOk_C22 M) (by kernel_rfl) (callOk_ext COk_Try (SigOk_C22 M) (ItOk_C22 M) (by kernel_rfl) inl_ok.ok (RSigOk_C22 M) (fun _ => callOk_none) M 1) (Try.func22) (body := body) (by kernel_rfl) (by kernel_rfl) ?_
  exact (run M x).trans h
end pentaglotref02_Record
end Go.Ai.Par
end
set_option linter.unusedVariables false
set_option linter.unusedSectionVars false
noncomputable section
namespace Go.Ai.Par
open Go Go.Ai Go.Proofs
noncomputable def sigs38 (M : Nat) : List (Nat × Sig E) := [(60, feature_name.sig M)]
noncomputable def rs38 (M : Nat) : List (Nat × Sig E) := []
noncomputable def its38 (M : Nat) : List (Nat × It E) := []
theorem sigs_ok38 (M : Nat) : SigsOk Try.prog (sigs38 M) := SigsOk.cons (feature_name.says M) (SigsOk.nil)
theorem rs_ok38 (M : Nat) : SigsOk Try.prog (rs38 M) := SigsOk.nil
theorem its_ok38 (M : Nat) : ItsOk Try.prog (its38 M) := ItsOk.nil
noncomputable def C38 (M : Nat) : Ctx E := { ti := fun t => tisE.lookup t, sig := fun f => (sigs38 M).lookup f, it := fun f => (its38 M).lookup f, nt := 41 }
theorem SigOk_C38 (M : Nat) : SigOk Try.prog (C38 M) := sigs_ok38 M
theorem RSigOk_C38 (M : Nat) : SigOk Try.prog ({ ti := fun _ => none, sig := fun f => (rs38 M).lookup f } : Ctx E) := rs_ok38 M
theorem ItOk_C38 (M : Nat) : ItOk Try.prog (C38 M) := (its_ok38 M).ok
namespace feature_Valid
noncomputable def plans : List (Option (Plan Nm)) := [none, none, some { tmps := [(0, .asis), (5, .asis), (6, .asis), (7, .asis)], boxes := [] }, none, none, none, some { tmps := [(0, .asis), (5, .asis), (6, .asis), (7, .asis), (36, .asis)], boxes := [] }, none, none, some { tmps := [(0, .asis)], boxes := [] }, none]
noncomputable abbrev body : Code := bodyOf Try.f38
def ps : List (Ty Nm) := [(.sl (.st .api_Feature))]
def rs : List (Ty Nm) := [.bool]
def ex : List (Option Nat) := [none]
noncomputable def inl : List (Nat × Nat × Nat × Inl Nm) := []
theorem inl_ok : InlsOk Try.prog inl := InlsOk.nil
noncomputable def X (M : Nat) : Ext E Bool := extOf (C38 M) (inlOf inl) (fun f => (rs38 M).lookup f) (fun _ _ _ => none) noX M 1
abbrev Rt := Bool
noncomputable def H (M : Nat) : Hd E Rt := hd0 (X M)
theorem Hok (M : Nat) : (H M).ok (C38 M) M := hd0_ok _
abbrev Qt2 : List Dir := [.r, .l, .r, .k, .L, .r, .r, .l, .k, .r]
abbrev Ht2 := (List api_Feature) → Int → Bool → Option Rt
abbrev Qt3 : List Dir := [.r]
abbrev Ht3 := (List api_Feature) → Option Rt
abbrev Qt1 : List Dir := [.r, .l, .r, .k]
abbrev Ht1 := (List api_Feature) → Int → Option Rt
abbrev Zt := List Dir → St E → Option Rt
abbrev Ut := St E → Option Rt
noncomputable def s2 (M : Nat) (h1 : Ht1) (ra0_0 : (List api_Feature)) (x7_1 : Int) (x36_2 : Bool) : Option Rt :=
  cond (x36_2)
   (some false)
   (h1 ra0_0 (IntKind.i64.wrap (x7_1 + 1)))
noncomputable def j2 (M : Nat) (h1 : Ht1) (ra0_0 : (List api_Feature)) (x7_1 : Int) (x36_2 : Bool) : Option Rt :=
  s2 M h1 ra0_0 x7_1 x36_2
noncomputable def s3 (M : Nat) (ra0_0 : (List api_Feature)) : Option Rt :=
  some (decide ((ra0_0.length : Int) ≤ 8))
noncomputable def j3 (M : Nat) (ra0_0 : (List api_Feature)) : Option Rt :=
  s3 M ra0_0
noncomputable def s1 (M : Nat) (h2 : Ht2) (h3 : Ht3) (ra0_0 : (List api_Feature)) (x7_1 : Int) : Option Rt :=
  cond (decide (x7_1 < (ra0_0.length : Int)))
   (cond (decide (0 ≤ x7_1) && decide (x7_1 < (ra0_0.length : Int)))
     (Option.bind (feature_name M ((ra0_0.getD x7_1.toNat default).fName)) fun r14_31 =>
      cond (!r14_31)
       (h2 ra0_0 x7_1 true)
       (Option.bind (feature_name M ((ra0_0.getD x7_1.toNat default).fValue)) fun r19_32 =>
        cond (!r19_32)
         (h2 ra0_0 x7_1 true)
         (cond (decide (0 < x7_1))
           (cond (decide (0 ≤ IntKind.i64.wrap (x7_1 - 1)) && decide (IntKind.i64.wrap (x7_1 - 1) < (ra0_0.length : Int)))
             (h2 ra0_0 x7_1 (!(Op.bytesLess ((ra0_0.getD (IntKind.i64.wrap (x7_1 - 1)).toNat default).fName) ((ra0_0.getD x7_1.toNat default).fName))))
             none)
           (h2 ra0_0 x7_1 false))))
     none)
   (h3 ra0_0)
noncomputable def l1 (M : Nat) : Nat → Ht1
  | 0, _, _ => none
  | k + 1, ra0_0, x7_1 => s1 M (j2 M (l1 M k)) (j3 M) ra0_0 x7_1
noncomputable def s (M : Nat) (h1 : Ht1) (ra0_0 : (List api_Feature)) : Option Rt :=
  h1 ra0_0 0
end feature_Valid
noncomputable def feature_Valid (M : Nat) (ra0_0 : (List api_Feature)) : Option Bool :=
  feature_Valid.s M (feature_Valid.l1 M M) ra0_0
namespace feature_Valid
noncomputable def S2 (ra0_0 : (List api_Feature)) (x7_1 : Int) (x36_2 : Bool) : St E :=
  mkSt 41 41 [(0, .one (.tv (.sl (.st .api_Feature) ra0_0))), (5, .one (.tv (.sl (.st .api_Feature) ra0_0))), (6, .one (.tv (.int .i64 (ra0_0.length : Int)))), (7, .one (.tv (.int .i64 x7_1))), (36, .one (.tv (.bool x36_2)))] [] 0 [] [] false
noncomputable def S3 (ra0_0 : (List api_Feature)) : St E :=
  mkSt 41 41 [(0, .one (.tv (.sl (.st .api_Feature) ra0_0)))] [] 0 [] [] false
noncomputable def S1 (ra0_0 : (List api_Feature)) (x7_1 : Int) : St E :=
  mkSt 41 41 [(0, .one (.tv (.sl (.st .api_Feature) ra0_0))), (5, .one (.tv (.sl (.st .api_Feature) ra0_0))), (6, .one (.tv (.int .i64 (ra0_0.length : Int)))), (7, .one (.tv (.int .i64 x7_1)))] [] 0 [] [] false
noncomputable def K (M : Nat) : Cont E Bool := kRet (C38 M) Try.f38.results.toList rs ex
noncomputable abbrev zA (M : Nat) (ZL : List Dir → Option (Ut)) (q : List Dir) : Ut := zAt (C38 M) (H M) M 0 ZL body plans (K M) q
noncomputable abbrev lA (M : Nat) (ZL : List Dir → Option (Ut)) (q : List Dir) (k : Nat) : Ut := lpAt (C38 M) (H M) M 0 ZL body plans (K M) q k
noncomputable abbrev gA (M : Nat) (Z : Zt) (q : List Dir) : Ut := seg (C38 M) (H M) 0 Z body plans (K M) q
set_option maxRecDepth 100000
theorem g2 (M : Nat) (Z : Zt) (ra0_0 : (List api_Feature)) (x7_1 : Int) (x36_2 : Bool) : gA M Z Qt2 (S2 ra0_0 x7_1 x36_2) = s2 M
    (fun ra0_0 x7_1 => Z Qt1 (S1 ra0_0 x7_1)) ra0_0 x7_1 x36_2 := by kernel_rfl
theorem g3 (M : Nat) (Z : Zt) (ra0_0 : (List api_Feature)) : gA M Z Qt3 (S3 ra0_0) = s3 M ra0_0 := by kernel_rfl
theorem g1 (M : Nat) (Z : Zt) (ra0_0 : (List api_Feature)) (x7_1 : Int) : gA M Z Qt1 (S1 ra0_0 x7_1) = s1 M
    (fun ra0_0 x7_1 x36_2 => Z Qt2 (S2 ra0_0 x7_1 x36_2))
    (fun ra0_0 => Z Qt3 (S3 ra0_0)) ra0_0 x7_1 := by kernel_rfl
theorem g (M : Nat) (Z : Zt) (ra0_0 : (List api_Feature)) : runZ (C38 M) (extZ (C38 M) (H M) 0) Z body plans (start (argHs ps ra0_0) Try.f38.ntmps 41) (K M) = s M
    (fun ra0_0 x7_1 => Z Qt1 (S1 ra0_0 x7_1)) ra0_0 := by kernel_rfl
theorem e2 (M : Nat) (Z1 : Ut) (h1 : Ht1) (hZ1 : ∀ (ra0_0 : (List api_Feature)) (x7_1 : Int), Z1 (S1 ra0_0 x7_1) = h1 ra0_0 x7_1) (ra0_0 : (List api_Feature)) (x7_1 : Int) (x36_2 : Bool) : zA M (zlq Qt2 [Z1]) Qt2 (S2 ra0_0 x7_1 x36_2) = j2 M h1 ra0_0 x7_1 x36_2 := by
  refine (seg_join (Hok M) 0 Qt2 body plans (K M) _ (S2 ra0_0 x7_1 x36_2) (around_zlq _ _ (by kernel_rfl)) (by kernel_rfl)).trans ?_
  refine (g2 M _ ra0_0 x7_1 x36_2).trans ?_
  have x0 := (funext fun ra0_0 => funext fun x7_1 => Eq.trans (b := Z1 (S1 ra0_0 x7_1)) (by kernel_rfl) (hZ1 ra0_0 x7_1) : (fun ra0_0 x7_1 => zA M (zlq Qt2 [Z1]) Qt1 (S1 ra0_0 x7_1)) = h1)
  rw [x0]; rfl
theorem e3 (M : Nat) (ra0_0 : (List api_Feature)) : zA M (zlq Qt3 []) Qt3 (S3 ra0_0) = j3 M ra0_0 := by
  refine (seg_join (Hok M) 0 Qt3 body plans (K M) _ (S3 ra0_0) (around_zlq _ _ (by kernel_rfl)) (by kernel_rfl)).trans ?_
  refine (g3 M _ ra0_0).trans ?_
  rfl
theorem el1 (M : Nat) (k : Nat) (ra0_0 : (List api_Feature)) (x7_1 : Int) : lA M (zlq Qt1 []) Qt1 k (S1 ra0_0 x7_1) = l1 M k ra0_0 x7_1 := by
  induction k generalizing ra0_0 x7_1 with
  | zero => kernel_rfl
  | succ k ih =>
    refine Eq.trans (b := lA M (zlq Qt1 [lA M (zlq Qt1 []) Qt1 k]) Qt1 (k + 1) (S1 ra0_0 x7_1)) (by kernel_rfl) ?_
    refine (seg_loop (Hok M) 0 Qt1 body plans (K M) _ (S1 ra0_0 x7_1) (around_zlq _ _ (by kernel_rfl)) (by kernel_rfl) (by kernel_rfl)).trans ?_
    refine (g1 M _ ra0_0 x7_1).trans ?_
    have x0 := (funext fun ra0_0 => funext fun x7_1 => funext fun x36_2 => Eq.trans (b := zA M (zlq Qt2 [(lA M (zlq Qt1 []) Qt1 k)]) Qt2 (S2 ra0_0 x7_1 x36_2)) (by kernel_rfl) (e2 M (lA M (zlq Qt1 []) Qt1 k) (l1 M k) (fun ra0_0 x7_1 => ih ra0_0 x7_1) ra0_0 x7_1 x36_2) : (fun ra0_0 x7_1 x36_2 => zA M (zlq Qt1 [lA M (zlq Qt1 []) Qt1 k]) Qt2 (S2 ra0_0 x7_1 x36_2)) = j2 M (l1 M k))
    have x1 := (funext fun ra0_0 => Eq.trans (b := zA M (zlq Qt3 []) Qt3 (S3 ra0_0)) (by kernel_rfl) (e3 M ra0_0) : (fun ra0_0 => zA M (zlq Qt1 [lA M (zlq Qt1 []) Qt1 k]) Qt3 (S3 ra0_0)) = j3 M)
    rw [x0, x1]; rfl
theorem e1 (M : Nat) (ra0_0 : (List api_Feature)) (x7_1 : Int) : zA M (zlq Qt1 []) Qt1 (S1 ra0_0 x7_1) = l1 M M ra0_0 x7_1 :=
  Eq.trans (b := lA M (zlq Qt1 []) Qt1 M (S1 ra0_0 x7_1)) (by kernel_rfl) (el1 M M ra0_0 x7_1)
theorem run (M : Nat) (ra0_0 : (List api_Feature)) : runF (rs := rs) (C38 M) (X M) M body Try.f38.ntmps 41 Try.f38.results.toList plans ps ex ra0_0 = feature_Valid M ra0_0 := by
  refine Eq.trans (b := runC (C38 M) (X M) M body plans (start (argHs ps ra0_0) Try.f38.ntmps 41) (K M)) (by kernel_rfl) ?_
  refine (zrun (Hok M) 0 body plans _ (K M) (fun _ => none) fun _ => rfl).symm.trans ?_
  refine (g M _ ra0_0).trans ?_
  have x0 := (funext fun ra0_0 => funext fun x7_1 => Eq.trans (b := zA M (zlq Qt1 []) Qt1 (S1 ra0_0 x7_1)) (by kernel_rfl) (e1 M ra0_0 x7_1) : (fun ra0_0 x7_1 => zA M (fun _ => none) Qt1 (S1 ra0_0 x7_1)) = l1 M M)
  rw [x0]; rfl
noncomputable def sig (M : Nat) : Sig E := { ps := ps, rs := rs, ex := ex, fn := fun x => feature_Valid M x }
theorem says (M : Nat) : callable Try.prog 38 = true ∧ ∀ x y, (sig M).fn x = some y → Says Try.prog 38 (sig M) x y := by
  refine ⟨by kernel_rfl, fun x y h => ?_⟩
  refine says_of_run (S := sig M) (C := C38 M) (X := X M) (M := M) (q := 41) (plans := plans) (COk_Try) (SigOk_C38 M) (ItOk_C38 M) (by kernel_rfl) (callOk_ext COk_Try (SigOk_C38 M) (ItOk_C38 M) (by kernel_rfl) inl_ok.ok (RSigOk_C38 M) (fun _ => callOk_none) M 1) (Try.func38) (body := body) (by kernel_rfl) (by kernel_rfl) ?_
  exact (run M x).trans h
end feature_Valid
end Go.Ai.Par
end
set_option linter.unusedVariables false
set_option linter.unusedSectionVars false
noncomputable section
namespace Go.Ai.Par
open Go Go.Ai Go.Proofs
noncomputable def sigs40 (M : Nat) : List (Nat × Sig E) := [(22, pentaglotref02_Record.sig M), (50, pentaglotref02_Name.sig M)]
noncomputable def rs40 (M : Nat) : List (Nat × Sig E) := []
noncomputable def its40 (M : Nat) : List (Nat × It E) := []
theorem sigs_ok40 (M : Nat) : SigsOk Try.prog (sigs40 M) := SigsOk.cons (pentaglotref02_Record.says M) (SigsOk.cons (pentaglotref02_Name.says M) (SigsOk.nil))
theorem rs_ok40 (M : Nat) : SigsOk Try.prog (rs40 M) := SigsOk.nil
theorem its_ok40 (M : Nat) : ItsOk Try.prog (its40 M) := ItsOk.nil
noncomputable def C40 (M : Nat) : Ctx E := { ti := fun t => tisE.lookup t, sig := fun f => (sigs40 M).lookup f, it := fun f => (its40 M).lookup f, nt := 33 }
theorem SigOk_C40 (M : Nat) : SigOk Try.prog (C40 M) := sigs_ok40 M
theorem RSigOk_C40 (M : Nat) : SigOk Try.prog ({ ti := fun _ => none, sig := fun f => (rs40 M).lookup f } : Ctx E) := rs_ok40 M
theorem ItOk_C40 (M : Nat) : ItOk Try.prog (C40 M) := (its_ok40 M).ok
namespace pentaglotref02_Valid
noncomputable def plans : List (Option (Plan Nm)) := [none, none, some { tmps := [(0, .asis), (3, .asis)], boxes := [] }, none, none, none, none, none, some { tmps := [(0, .asis)], boxes := [] }, none]
noncomputable abbrev body : Code := bodyOf Try.f40
def ps : List (Ty Nm) := [(.sl (.st .api_Feature))]
def rs : List (Ty Nm) := [.bool]
def ex : List (Option Nat) := [none]
noncomputable def inl : List (Nat × Nat × Nat × Inl Nm) := []
theorem inl_ok : InlsOk Try.prog inl := InlsOk.nil
noncomputable def X (M : Nat) : Ext E Bool := extOf (C40 M) (inlOf inl) (fun f => (rs40 M).lookup f) (fun _ _ _ => none) noX M 1
abbrev Rt := Bool
noncomputable def H (M : Nat) : Hd E Rt := hd0 (X M)
theorem Hok (M : Nat) : (H M).ok (C40 M) M := hd0_ok _
abbrev Qt2 : List Dir := [.r]
abbrev Ht2 := (List api_Feature) → Option Rt
abbrev Qt1 : List Dir := [.r, .l, .r, .k]
abbrev Ht1 := (List api_Feature) → Int → Option Rt
abbrev Zt := List Dir → St E → Option Rt
abbrev Ut := St E → Option Rt
noncomputable def s2 (M : Nat) (ra0_0 : (List api_Feature)) : Option Rt :=
  cond (decide ((ra0_0.length : Int) ≤ 8))
   (Option.bind (pentaglotref02_Record M ra0_0) fun r31_33 =>
    some r31_33)
   (some false)
noncomputable def j2 (M : Nat) (ra0_0 : (List api_Feature)) : Option Rt :=
  s2 M ra0_0
noncomputable def s1 (M : Nat) (h1 : Ht1) (h2 : Ht2) (ra0_0 : (List api_Feature)) (i3_1 : Int) : Option Rt :=
  cond (decide (i3_1 < (ra0_0.length : Int)))
   (cond (decide (0 ≤ i3_1) && decide (i3_1 < (ra0_0.length : Int)))
     (Option.bind (pentaglotref02_Name M ((ra0_0.getD i3_1.toNat default).fName)) fun r15_31 =>
      cond (!r15_31)
       (some false)
       (cond (decide (0 ≤ i3_1) && decide (i3_1 < (ra0_0.length : Int)))
         (Option.bind (pentaglotref02_Name M ((ra0_0.getD i3_1.toNat default).fValue)) fun r23_32 =>
          cond (!r23_32)
           (some false)
           (h1 ra0_0 (IntKind.i64.wrap (i3_1 + 1))))
         none))
     none)
   (h2 ra0_0)
noncomputable def l1 (M : Nat) : Nat → Ht1
  | 0, _, _ => none
  | k + 1, ra0_0, i3_1 => s1 M (l1 M k) (j2 M) ra0_0 i3_1
noncomputable def s (M : Nat) (h1 : Ht1) (ra0_0 : (List api_Feature)) : Option Rt :=
  h1 ra0_0 0
end pentaglotref02_Valid
noncomputable def pentaglotref02_Valid (M : Nat) (ra0_0 : (List api_Feature)) : Option Bool :=
  pentaglotref02_Valid.s M (pentaglotref02_Valid.l1 M M) ra0_0
namespace pentaglotref02_Valid
noncomputable def S2 (ra0_0 : (List api_Feature)) : St E :=
  mkSt 33 33 [(0, .one (.tv (.sl (.st .api_Feature) ra0_0)))] [] 0 [] [] false
noncomputable def S1 (ra0_0 : (List api_Feature)) (i3_1 : Int) : St E :=
  mkSt 33 33 [(0, .one (.tv (.sl (.st .api_Feature) ra0_0))), (3, .one (.tv (.int .i64 i3_1)))] [] 0 [] [] false
noncomputable def K (M : Nat) : Cont E Bool := kRet (C40 M) Try.f40.results.toList rs ex
noncomputable abbrev zA (M : Nat) (ZL : List Dir → Option (Ut)) (q : List Dir) : Ut := zAt (C40 M) (H M) M 0 ZL body plans (K M) q
noncomputable abbrev lA (M : Nat) (ZL : List Dir → Option (Ut)) (q : List Dir) (k : Nat) : Ut := lpAt (C40 M) (H M) M 0 ZL body plans (K M) q k
noncomputable abbrev gA (M : Nat) (Z : Zt) (q : List Dir) : Ut := seg (C40 M) (H M) 0 Z body plans (K M) q
set_option maxRecDepth 100000
theorem g2 (M : Nat) (Z : Zt) (ra0_0 : (List api_Feature)) : gA M Z Qt2 (S2 ra0_0) = s2 M ra0_0 := by kernel_rfl
theorem g1 (M : Nat) (Z : Zt) (ra0_0 : (List api_Feature)) (i3_1 : Int) : gA M Z Qt1 (S1 ra0_0 i3_1) = s1 M
    (fun ra0_0 i3_1 => Z Qt1 (S1 ra0_0 i3_1))
    (fun ra0_0 => Z Qt2 (S2 ra0_0)) ra0_0 i3_1 := by kernel_rfl
theorem g (M : Nat) (Z : Zt) (ra0_0 : (List api_Feature)) : runZ (C40 M) (extZ (C40 M) (H M) 0) Z body plans (start (argHs ps ra0_0) Try.f40.ntmps 33) (K M) = s M
    (fun ra0_0 i3_1 => Z Qt1 (S1 ra0_0 i3_1)) ra0_0 := by kernel_rfl
theorem e2 (M : Nat) (ra0_0 : (List api_Feature)) : zA M (zlq Qt2 []) Qt2 (S2 ra0_0) = j2 M ra0_0 := by
  refine (seg_join (Hok M) 0 Qt2 body plans (K M) _ (S2 ra0_0) (around_zlq _ _ (by kernel_rfl)) (by kernel_rfl)).trans ?_
  refine (g2 M _ ra0_0).trans ?_
  rfl
theorem el1 (M : Nat) (k : Nat) (ra0_0 : (List api_Feature)) (i3_1 : Int) : lA M (zlq Qt1 []) Qt1 k (S1 ra0_0 i3_1) = l1 M k ra0_0 i3_1 := by
  induction k generalizing ra0_0 i3_1 with
  | zero => kernel_rfl
  | succ k ih =>
    refine Eq.trans (b := lA M (zlq Qt1 [lA M (zlq Qt1 []) Qt1 k]) Qt1 (k + 1) (S1 ra0_0 i3_1)) (by kernel_rfl) ?_
    refine (seg_loop (Hok M) 0 Qt1 body plans (K M) _ (S1 ra0_0 i3_1) (around_zlq _ _ (by kernel_rfl)) (by kernel_rfl) (by kernel_rfl)).trans ?_
    refine (g1 M _ ra0_0 i3_1).trans ?_
    have x0 := (funext fun ra0_0 => funext fun i3_1 => Eq.trans (b := lA M (zlq Qt1 []) Qt1 k (S1 ra0_0 i3_1)) (by kernel_rfl) (ih ra0_0 i3_1) : (fun ra0_0 i3_1 => zA M (zlq Qt1 [lA M (zlq Qt1 []) Qt1 k]) Qt1 (S1 ra0_0 i3_1)) = l1 M k)
    have x1 := (funext fun ra0_0 => Eq.trans (b := zA M (zlq Qt2 []) Qt2 (S2 ra0_0)) (by kernel_rfl) (e2 M ra0_0) : (fun ra0_0 => zA M (zlq Qt1 [lA M (zlq Qt1 []) Qt1 k]) Qt2 (S2 ra0_0)) = j2 M)
    rw [x0, x1]; rfl
theorem e1 (M : Nat) (ra0_0 : (List api_Feature)) (i3_1 : Int) : zA M (zlq Qt1 []) Qt1 (S1 ra0_0 i3_1) = l1 M M ra0_0 i3_1 :=
  Eq.trans (b := lA M (zlq Qt1 []) Qt1 M (S1 ra0_0 i3_1)) (by kernel_rfl) (el1 M M ra0_0 i3_1)
theorem run (M : Nat) (ra0_0 : (List api_Feature)) : runF (rs := rs) (C40 M) (X M) M body Try.f40.ntmps 33 Try.f40.results.toList plans ps ex ra0_0 = pentaglotref02_Valid M ra0_0 := by
  refine Eq.trans (b := runC (C40 M) (X M) M body plans (start (argHs ps ra0_0) Try.f40.ntmps 33) (K M)) (by kernel_rfl) ?_
  refine (zrun (Hok M) 0 body plans _ (K M) (fun _ => none) fun _ => rfl).symm.trans ?_
  refine (g M _ ra0_0).trans ?_
  have x0 := (funext fun ra0_0 => funext fun i3_1 => Eq.trans (b := zA M (zlq Qt1 []) Qt1 (S1 ra0_0 i3_1)) (by kernel_rfl) (e1 M ra0_0 i3_1) : (fun ra0_0 i3_1 => zA M (fun _ => none) Qt1 (S1 ra0_0 i3_1)) = l1 M M)
  rw [x0]; rfl
noncomputable def sig (M : Nat) : Sig E := { ps := ps, rs := rs, ex := ex, fn := fun x => pentaglotref02_Valid M x }
theorem says (M : Nat) : callable Try.prog 40 = true ∧ ∀ x y, (sig M).fn x = some y → Says Try.prog 40 (sig M) x y := by
  refine ⟨by kernel_rfl, fun x y h => ?_⟩
  refine says_of_run (S := sig M) (C := C40 M) (X := X M) (M := M) (q := 33) (plans := plans) (COk_Try) (SigOk_C40 M) (ItOk_C40 M) (by kernel_rfl) (callOk_ext COk_Try (SigOk_C40 M) (ItOk_C40 M) (by kernel_rfl) inl_ok.ok (RSigOk_C40 M) (fun _ => callOk_none) M 1) (Try.func40) (body := body) (by kernel_rfl) (by kernel_rfl) ?_
  exact (run M x).trans h
end pentaglotref02_Valid
end Go.Ai.Par
end
namespace Go.Ai.Par
open Go Go.Ai
deriving instance DecidableEq for api_Feature

/-- A byte of a name. -/
def nameByte (c : UInt8) : Bool := !((decide ((c.toNat : Int) < 97) || decide (122 < (c.toNat : Int))) && (decide ((c.toNat : Int) < 48) || decide (57 < (c.toNat : Int))) && !decide ((c.toNat : Int) = 45))
def isName (s : List UInt8) : Bool := s.all nameByte && !s.isEmpty

variable {M : Nat}

theorem feature_name_eq (hM : 1048576 < M) {s : List UInt8} (hl : s.length ≤ 1048576) : feature_name M s = some (isName s) :=
  over (xs := s) (f := fun k i (_ : Unit) => feature_name.l1 M k s i) (g := fun r _ => some (r.all nameByte && !s.isEmpty)) (fun k _ => by
    simp only [feature_name.l1, feature_name.s1, ↓cneg (Int.lt_irrefl _)]
    cases s <;> simp) (fun k i x r _ hi hx ih => by
    have ih := ih ()
    simp (disch := omega) only [feature_name.l1, feature_name.s1, feature_name.j2, feature_name.s2, ↓cpos, ↓cpos2, Int.toNat_natCast, bt_getD, hx, wsucc, ih]
    simp only [List.all_cons, nameByte]
    cases decide ((x.toNat : Int) < 97) <;> cases decide (122 < (x.toNat : Int)) <;> cases decide ((x.toNat : Int) < 48) <;> cases decide (57 < (x.toNat : Int)) <;> cases decide ((x.toNat : Int) = 45) <;> simp) (by omega) ()

theorem ref02_Name_eq (hM : 1048576 < M) {s : List UInt8} (hl : s.length ≤ 1048576) : pentaglotref02_Name M s = some (isName s) :=
  over (xs := s) (f := fun k i (_ : Unit) => pentaglotref02_Name.l1 M k s i) (g := fun r _ => some (r.all nameByte && !s.isEmpty)) (fun k _ => by
    simp only [pentaglotref02_Name.l1, pentaglotref02_Name.s1, pentaglotref02_Name.j3, pentaglotref02_Name.s3, ↓cneg (Int.lt_irrefl _)]
    cases s <;> simp) (fun k i x r _ hi hx ih => by
    have ih := ih ()
    simp (disch := omega) only [pentaglotref02_Name.l1, pentaglotref02_Name.s1, pentaglotref02_Name.j2, pentaglotref02_Name.s2, ↓cpos, ↓cpos2, Int.toNat_natCast, bt_getD, hx, wsucc, ih]
    simp only [List.all_cons, nameByte]
    cases decide ((x.toNat : Int) < 97) <;> cases decide (122 < (x.toNat : Int)) <;> cases decide ((x.toNat : Int) < 48) <;> cases decide (57 < (x.toNat : Int)) <;> cases decide ((x.toNat : Int) = 45) <;> simp) (by omega) ()

theorem slices_Index_eq (hM : 1048576 < M) {xs : List (List UInt8)} (hl : xs.length ≤ 1048576) (v : List UInt8) : slices_Index_string_string M xs v = some (fstIdx (fun x => decide (v = x)) xs 0) :=
  overI (xs := xs) (f := fun k i (_ : Unit) => slices_Index_string_string.l1 M k xs v i) (g := fun i r _ => some (fstIdx (fun x => decide (v = x)) r i)) (fun k _ => by
    simp only [slices_Index_string_string.l1, slices_Index_string_string.s1, ↓cneg (Int.lt_irrefl _), fstIdx]) (fun k i x r _ hi hx _ _ ih => by
    have ih := ih ()
    simp (disch := omega) only [slices_Index_string_string.l1, slices_Index_string_string.s1, ↓cpos, ↓cpos2, Int.toNat_natCast, hx, wsucc, ih, fstIdx]
    cases decide (v = x) <;> rfl) (by omega) ()

theorem slices_Contains_eq (hM : 1048576 < M) {xs : List (List UInt8)} (hl : xs.length ≤ 1048576) (v : List UInt8) : slices_Contains_string_string M xs v = some (xs.any fun x => decide (v = x)) := by
  simp only [slices_Contains_string_string, slices_Contains_string_string.s, slices_Index_eq hM hl, Option.bind_some, fstIdx_nonneg]

theorem ref02_In_eq (hM : 1048576 < M) {xs : List (List UInt8)} (hl : xs.length ≤ 1048576) (v : List UInt8) : pentaglotref02_In M xs v = some (xs.any fun x => decide (v = x)) :=
  over (xs := xs) (f := fun k i (_ : Unit) => pentaglotref02_In.l1 M k xs v i) (g := fun r _ => some (r.any fun x => decide (v = x))) (fun k _ => by
    simp only [pentaglotref02_In.l1, pentaglotref02_In.s1, ↓cneg (Int.lt_irrefl _), List.any_nil]) (fun k i x r _ hi hx ih => by
    have ih := ih ()
    simp (disch := omega) only [pentaglotref02_In.l1, pentaglotref02_In.s1, ↓cpos, ↓cpos2, Int.toNat_natCast, hx, wsucc, ih, List.any_cons, eq_comm (a := x)]
    cases decide (v = x) <;> rfl) (by omega) ()

theorem ref02_Index_eq (hM : 1048576 < M) {r : List api_Feature} (hl : r.length ≤ 1048576) (v : List UInt8) : pentaglotref02_Index M r v = some (fstIdx (fun x : api_Feature => decide (x.fName = v)) r 0) :=
  overI (xs := r) (f := fun k i (_ : Unit) => pentaglotref02_Index.l1 M k v r i) (g := fun i r _ => some (fstIdx (fun x : api_Feature => decide (x.fName = v)) r i)) (fun k _ => by
    simp only [pentaglotref02_Index.l1, pentaglotref02_Index.s1, ↓cneg (Int.lt_irrefl _), fstIdx]) (fun k i x r' _ hi hx _ _ ih => by
    have ih := ih ()
    simp (disch := omega) only [pentaglotref02_Index.l1, pentaglotref02_Index.s1, ↓cpos, ↓cpos2, Int.toNat_natCast, hx, wsucc, ih, fstIdx]
    cases decide (x.fName = v) <;> rfl) (by omega) ()

/-- The value of a name in a record. -/
def getF : List api_Feature → List UInt8 → Option (List UInt8)
  | [], _ => none
  | f :: r, n => if f.fName = n then some f.fValue else getF r n

theorem feature_Get_eq (hM : 1048576 < M) {r : List api_Feature} (hl : r.length ≤ 1048576) (n : List UInt8) : feature_Get M r n = some ((getF r n).getD [], (getF r n).isSome) :=
  over (xs := r) (f := fun k i (_ : Unit) => feature_Get.l1 M k n r i) (g := fun r _ => some ((getF r n).getD [], (getF r n).isSome)) (fun k _ => by
    simp only [feature_Get.l1, feature_Get.s1, ↓cneg (Int.lt_irrefl _), getF]; rfl) (fun k i x r' _ hi hx ih => by
    have ih := ih ()
    simp (disch := omega) only [feature_Get.l1, feature_Get.s1, ↓cpos, ↓cpos2, Int.toNat_natCast, hx, wsucc, ih, getF]
    by_cases h : x.fName = n <;> simp [h]) (by omega) ()

theorem ref02_Same_eq (hM : 1048576 < M) {a b : List api_Feature} (hl : a.length ≤ 1048576) : pentaglotref02_Same M a b = some (decide (a = b)) := by
  unfold pentaglotref02_Same pentaglotref02_Same.s
  by_cases h : a.length = b.length
  · rw [show (!decide ((a.length : Int) = (b.length : Int))) = false by simp [h], cond_false]
    have key := overI (xs := a) (f := fun k i (_ : Unit) => pentaglotref02_Same.l1 M k a b i) (g := fun i r _ => some (decide (r = b.drop i))) (fun k _ => by
      simp only [pentaglotref02_Same.l1, pentaglotref02_Same.s1, ↓cneg (Int.lt_irrefl _)]
      rw [List.drop_of_length_le (by omega)]; rfl) (fun k i x r _ hi hx _ _ ih => by
      have ih := ih ()
      obtain ⟨y, t, e2, g2, e3⟩ := dropCons (xs := b) (i := i) (by omega)
      have hd : (decide (x.fName = y.fName) && (decide (x.fValue = y.fValue) && true)) = decide (x = y) := by
        rw [Bool.eq_iff_iff]
        cases x; cases y
        simp
      simp (disch := omega) only [pentaglotref02_Same.l1, pentaglotref02_Same.s1, ↓cpos, ↓cpos2, Int.toNat_natCast, hx, g2, wsucc, ih, hd, e2, e3, cnot]
      by_cases hxb : x = y <;> simp [hxb]) (k := M) (by omega) ()
    simpa using key
  · rw [show (!decide ((a.length : Int) = (b.length : Int))) = true by simp; omega, cond_true]
    have : a ≠ b := fun e => h (by rw [e])
    simp [this]

/-- Strictly ascending names, from a feature on. -/
def asc : Option api_Feature → List api_Feature → Bool
  | _, [] => true
  | none, f :: r => asc (some f) r
  | some e, f :: r => Op.bytesLess e.fName f.fName && asc (some f) r

def isRec (r : List api_Feature) : Bool := asc none r

theorem ref02_Record_eq (hM : 1048576 < M) {r : List api_Feature} (hl : r.length ≤ 1048576) : pentaglotref02_Record M r = some (isRec r) := by
  unfold pentaglotref02_Record pentaglotref02_Record.s isRec
  cases r with
  | nil =>
    obtain ⟨k, rfl⟩ := Nat.exists_eq_succ_of_ne_zero (by omega : M ≠ 0)
    rfl
  | cons f r =>
    have key := uptoFrom (lo := 1) (n := (f :: r).length) (f := fun k i (_ : Unit) => pentaglotref02_Record.l1 M k (f :: r) i) (g := fun i _ => some (asc (some ((f :: r).getD (i - 1) default)) ((f :: r).drop i))) (fun k _ => by
      simp only [pentaglotref02_Record.l1, pentaglotref02_Record.s1, ↓cneg (Int.lt_irrefl _), List.drop_length, asc]) (fun k i _ hlo hi ih => by
      have ih := ih ()
      obtain ⟨i, rfl⟩ := Nat.exists_eq_succ_of_ne_zero (by omega : i ≠ 0)
      obtain ⟨y, t, e2, g2, e3⟩ := dropCons (xs := f :: r) (i := i + 1) hi
      have w : IntKind.i64.wrap (((i + 1 : Nat) : Int) - 1) = (i : Int) := by rw [wrap64] <;> omega
      simp only [Nat.succ_eq_add_one, Nat.add_sub_cancel, g2, e3] at ih ⊢
      simp (disch := omega) only [pentaglotref02_Record.l1, pentaglotref02_Record.s1, w, ↓cpos, ↓cpos2, Int.toNat_natCast, wsucc, ih, e2, g2, asc, cnot]
      cases Op.bytesLess ((f :: r).getD i default).fName y.fName <;> rfl) r.length M 1 () (by omega) (by simp; omega) (by simp at hl; omega)
    exact key

end Go.Ai.Par
set_option linter.unusedVariables false
set_option linter.unusedSectionVars false
noncomputable section
namespace Go.Ai.Par
open Go Go.Ai Go.Proofs
noncomputable def sigs39 (M : Nat) : List (Nat × Sig E) := []
noncomputable def rs39 (M : Nat) : List (Nat × Sig E) := []
noncomputable def its39 (M : Nat) : List (Nat × It E) := []
theorem sigs_ok39 (M : Nat) : SigsOk Try.prog (sigs39 M) := SigsOk.nil
theorem rs_ok39 (M : Nat) : SigsOk Try.prog (rs39 M) := SigsOk.nil
theorem its_ok39 (M : Nat) : ItsOk Try.prog (its39 M) := ItsOk.nil
noncomputable def C39 (M : Nat) : Ctx E := { ti := fun t => tisE.lookup t, sig := fun f => (sigs39 M).lookup f, it := fun f => (its39 M).lookup f, nt := 109 }
theorem SigOk_C39 (M : Nat) : SigOk Try.prog (C39 M) := sigs_ok39 M
theorem RSigOk_C39 (M : Nat) : SigOk Try.prog ({ ti := fun _ => none, sig := fun f => (rs39 M).lookup f } : Ctx E) := rs_ok39 M
theorem ItOk_C39 (M : Nat) : ItOk Try.prog (C39 M) := (its_ok39 M).ok
namespace feature_Unify
noncomputable def plans : List (Option (Plan Nm)) := [none, none, none, some { tmps := [(0, .asis), (1, .asis), (6, .own (100006, 0, 71) (.st .api_Feature)), (7, .asis), (8, .asis)], boxes := [] }, none, some { tmps := [(0, .asis), (1, .asis), (6, .own (100006, 0, 71) (.st .api_Feature)), (7, .asis), (8, .asis)], boxes := [] }, some { tmps := [(0, .asis), (1, .asis), (6, .own (100006, 0, 71) (.st .api_Feature)), (7, .asis), (8, .asis), (36, .asis)], boxes := [] }, none, none, none, none, none, none, none, none]
noncomputable abbrev body : Code := bodyOf Try.f39
def ps : List (Ty Nm) := [(.sl (.st .api_Feature)), (.sl (.st .api_Feature))]
def rs : List (Ty Nm) := [(.sl (.st .api_Feature)), .bool]
def ex : List (Option Nat) := [some 71, none]
noncomputable def inl : List (Nat × Nat × Nat × Inl Nm) := []
theorem inl_ok : InlsOk Try.prog inl := InlsOk.nil
noncomputable def X (M : Nat) : Ext E ((List api_Feature) × Bool) := extOf (C39 M) (inlOf inl) (fun f => (rs39 M).lookup f) (fun _ _ _ => none) noX M 1
abbrev Rt := (List api_Feature) × Bool
noncomputable def H (M : Nat) : Hd E Rt := hd0 (X M)
theorem Hok (M : Nat) : (H M).ok (C39 M) M := hd0_ok _
abbrev Qt3 : List Dir := [.r, .r, .r, .l, .k, .L, .r, .k, .k]
abbrev Ht3 := (List api_Feature) → (List api_Feature) → Int → Int → (List api_Feature) → Bool → Option Rt
abbrev Qt2 : List Dir := [.r, .r, .r, .l, .k, .L]
abbrev Ht2 := (List api_Feature) → (List api_Feature) → Int → Int → (List api_Feature) → Option Rt
abbrev Qt1 : List Dir := [.r, .r, .r, .l, .k]
abbrev Ht1 := (List api_Feature) → (List api_Feature) → (List api_Feature) → Int → Int → Option Rt
abbrev Zt := List Dir → St E → Option Rt
abbrev Ut := St E → Option Rt
noncomputable def s3 (M : Nat) (h1 : Ht1) (aa0_0 : (List api_Feature)) (ba1_0 : (List api_Feature)) (i7_1 : Int) (k8_1 : Int) (out6_1 : (List api_Feature)) (x36_3 : Bool) : Option Rt :=
  cond (x36_3)
   (cond (decide (0 ≤ i7_1) && decide (i7_1 < (aa0_0.length : Int)))
     (cond (decide (out6_1.length + ([(aa0_0.getD i7_1.toNat default)] : List api_Feature).length ≤ lim))
       (h1 aa0_0 ba1_0 (out6_1 ++ [(aa0_0.getD i7_1.toNat default)]) (IntKind.i64.wrap (i7_1 + 1)) k8_1)
       none)
     none)
   (cond (decide (i7_1 = (aa0_0.length : Int)))
     (cond (decide (0 ≤ k8_1) && decide (k8_1 < (ba1_0.length : Int)))
       (cond (decide (out6_1.length + ([(ba1_0.getD k8_1.toNat default)] : List api_Feature).length ≤ lim))
         (h1 aa0_0 ba1_0 (out6_1 ++ [(ba1_0.getD k8_1.toNat default)]) i7_1 (IntKind.i64.wrap (k8_1 + 1)))
         none)
       none)
     (cond (decide (0 ≤ k8_1) && decide (k8_1 < (ba1_0.length : Int)))
       (cond (decide (0 ≤ i7_1) && decide (i7_1 < (aa0_0.length : Int)))
         (cond (Op.bytesLess ((ba1_0.getD k8_1.toNat default).fName) ((aa0_0.getD i7_1.toNat default).fName))
           (cond (decide (0 ≤ k8_1) && decide (k8_1 < (ba1_0.length : Int)))
             (cond (decide (out6_1.length + ([(ba1_0.getD k8_1.toNat default)] : List api_Feature).length ≤ lim))
               (h1 aa0_0 ba1_0 (out6_1 ++ [(ba1_0.getD k8_1.toNat default)]) i7_1 (IntKind.i64.wrap (k8_1 + 1)))
               none)
             none)
           (cond (decide (0 ≤ i7_1) && decide (i7_1 < (aa0_0.length : Int)))
             (cond (decide (0 ≤ k8_1) && decide (k8_1 < (ba1_0.length : Int)))
               (cond (!decide (((aa0_0.getD i7_1.toNat default).fValue) = ((ba1_0.getD k8_1.toNat default).fValue)))
                 (some ([], false))
                 (cond (decide (0 ≤ i7_1) && decide (i7_1 < (aa0_0.length : Int)))
                   (cond (decide (out6_1.length + ([(aa0_0.getD i7_1.toNat default)] : List api_Feature).length ≤ lim))
                     (h1 aa0_0 ba1_0 (out6_1 ++ [(aa0_0.getD i7_1.toNat default)]) (IntKind.i64.wrap (i7_1 + 1)) (IntKind.i64.wrap (k8_1 + 1)))
                     none)
                   none))
               none)
             none))
         none)
       none))
noncomputable def j3 (M : Nat) (h1 : Ht1) (aa0_0 : (List api_Feature)) (ba1_0 : (List api_Feature)) (i7_1 : Int) (k8_1 : Int) (out6_1 : (List api_Feature)) (x36_3 : Bool) : Option Rt :=
  s3 M h1 aa0_0 ba1_0 i7_1 k8_1 out6_1 x36_3
noncomputable def s2 (M : Nat) (h3 : Ht3) (aa0_0 : (List api_Feature)) (ba1_0 : (List api_Feature)) (i7_1 : Int) (k8_1 : Int) (out6_1 : (List api_Feature)) : Option Rt :=
  cond (decide (k8_1 = (ba1_0.length : Int)))
   (h3 aa0_0 ba1_0 i7_1 k8_1 out6_1 true)
   (cond (decide (i7_1 < (aa0_0.length : Int)))
     (cond (decide (0 ≤ i7_1) && decide (i7_1 < (aa0_0.length : Int)))
       (cond (decide (0 ≤ k8_1) && decide (k8_1 < (ba1_0.length : Int)))
         (h3 aa0_0 ba1_0 i7_1 k8_1 out6_1 (Op.bytesLess ((aa0_0.getD i7_1.toNat default).fName) ((ba1_0.getD k8_1.toNat default).fName)))
         none)
       none)
     (h3 aa0_0 ba1_0 i7_1 k8_1 out6_1 false))
noncomputable def j2 (M : Nat) (h1 : Ht1) (aa0_0 : (List api_Feature)) (ba1_0 : (List api_Feature)) (i7_1 : Int) (k8_1 : Int) (out6_1 : (List api_Feature)) : Option Rt :=
  s2 M (j3 M h1) aa0_0 ba1_0 i7_1 k8_1 out6_1
noncomputable def s1 (M : Nat) (h2 : Ht2) (aa0_0 : (List api_Feature)) (ba1_0 : (List api_Feature)) (out6_1 : (List api_Feature)) (i7_1 : Int) (k8_1 : Int) : Option Rt :=
  cond (decide (i7_1 < (aa0_0.length : Int)))
   (h2 aa0_0 ba1_0 i7_1 k8_1 out6_1)
   (cond (decide (k8_1 < (ba1_0.length : Int)))
     (h2 aa0_0 ba1_0 i7_1 k8_1 out6_1)
     (some (out6_1, true)))
noncomputable def l1 (M : Nat) : Nat → Ht1
  | 0, _, _, _, _, _ => none
  | k + 1, aa0_0, ba1_0, out6_1, i7_1, k8_1 => s1 M (j2 M (l1 M k)) aa0_0 ba1_0 out6_1 i7_1 k8_1
noncomputable def s (M : Nat) (h1 : Ht1) (aa0_0 : (List api_Feature)) (ba1_0 : (List api_Feature)) : Option Rt :=
  cond (decide (0 ≤ IntKind.i64.wrap ((aa0_0.length : Int) + (ba1_0.length : Int))) && decide (IntKind.i64.wrap ((aa0_0.length : Int) + (ba1_0.length : Int)) ≤ (lim : Int)))
   (h1 aa0_0 ba1_0 ([] : (List api_Feature)) 0 0)
   none
end feature_Unify
noncomputable def feature_Unify (M : Nat) (aa0_0 : (List api_Feature)) (ba1_0 : (List api_Feature)) : Option ((List api_Feature) × Bool) :=
  feature_Unify.s M (feature_Unify.l1 M M) aa0_0 ba1_0
namespace feature_Unify
noncomputable def S3 (aa0_0 : (List api_Feature)) (ba1_0 : (List api_Feature)) (i7_1 : Int) (k8_1 : Int) (out6_1 : (List api_Feature)) (x36_3 : Bool) : St E :=
  mkSt 109 109 [(0, .one (.tv (.sl (.st .api_Feature) aa0_0))), (1, .one (.tv (.sl (.st .api_Feature) ba1_0))), (6, .one (.tok (100006, 0, 71) (.st .api_Feature) out6_1)), (7, .one (.tv (.int .i64 i7_1))), (8, .one (.tv (.int .i64 k8_1))), (36, .one (.tv (.bool x36_3)))] [] 0 [] [] false
noncomputable def S2 (aa0_0 : (List api_Feature)) (ba1_0 : (List api_Feature)) (i7_1 : Int) (k8_1 : Int) (out6_1 : (List api_Feature)) : St E :=
  mkSt 109 109 [(0, .one (.tv (.sl (.st .api_Feature) aa0_0))), (1, .one (.tv (.sl (.st .api_Feature) ba1_0))), (6, .one (.tok (100006, 0, 71) (.st .api_Feature) out6_1)), (7, .one (.tv (.int .i64 i7_1))), (8, .one (.tv (.int .i64 k8_1)))] [] 0 [] [] false
noncomputable def S1 (aa0_0 : (List api_Feature)) (ba1_0 : (List api_Feature)) (out6_1 : (List api_Feature)) (i7_1 : Int) (k8_1 : Int) : St E :=
  mkSt 109 109 [(0, .one (.tv (.sl (.st .api_Feature) aa0_0))), (1, .one (.tv (.sl (.st .api_Feature) ba1_0))), (6, .one (.tok (100006, 0, 71) (.st .api_Feature) out6_1)), (7, .one (.tv (.int .i64 i7_1))), (8, .one (.tv (.int .i64 k8_1)))] [] 0 [] [] false
noncomputable def K (M : Nat) : Cont E ((List api_Feature) × Bool) := kRet (C39 M) Try.f39.results.toList rs ex
noncomputable abbrev zA (M : Nat) (ZL : List Dir → Option (Ut)) (q : List Dir) : Ut := zAt (C39 M) (H M) M 0 ZL body plans (K M) q
noncomputable abbrev lA (M : Nat) (ZL : List Dir → Option (Ut)) (q : List Dir) (k : Nat) : Ut := lpAt (C39 M) (H M) M 0 ZL body plans (K M) q k
noncomputable abbrev gA (M : Nat) (Z : Zt) (q : List Dir) : Ut := seg (C39 M) (H M) 0 Z body plans (K M) q
set_option maxRecDepth 100000
theorem g3 (M : Nat) (Z : Zt) (aa0_0 : (List api_Feature)) (ba1_0 : (List api_Feature)) (i7_1 : Int) (k8_1 : Int) (out6_1 : (List api_Feature)) (x36_3 : Bool) : gA M Z Qt3 (S3 aa0_0 ba1_0 i7_1 k8_1 out6_1 x36_3) = s3 M
    (fun aa0_0 ba1_0 out6_1 i7_1 k8_1 => Z Qt1 (S1 aa0_0 ba1_0 out6_1 i7_1 k8_1)) aa0_0 ba1_0 i7_1 k8_1 out6_1 x36_3 := by kernel_rfl
theorem g2 (M : Nat) (Z : Zt) (aa0_0 : (List api_Feature)) (ba1_0 : (List api_Feature)) (i7_1 : Int) (k8_1 : Int) (out6_1 : (List api_Feature)) : gA M Z Qt2 (S2 aa0_0 ba1_0 i7_1 k8_1 out6_1) = s2 M
    (fun aa0_0 ba1_0 i7_1 k8_1 out6_1 x36_3 => Z Qt3 (S3 aa0_0 ba1_0 i7_1 k8_1 out6_1 x36_3)) aa0_0 ba1_0 i7_1 k8_1 out6_1 := by kernel_rfl
theorem g1 (M : Nat) (Z : Zt) (aa0_0 : (List api_Feature)) (ba1_0 : (List api_Feature)) (out6_1 : (List api_Feature)) (i7_1 : Int) (k8_1 : Int) : gA M Z Qt1 (S1 aa0_0 ba1_0 out6_1 i7_1 k8_1) = s1 M
    (fun aa0_0 ba1_0 i7_1 k8_1 out6_1 => Z Qt2 (S2 aa0_0 ba1_0 i7_1 k8_1 out6_1)) aa0_0 ba1_0 out6_1 i7_1 k8_1 := by kernel_rfl
theorem g (M : Nat) (Z : Zt) (aa0_0 : (List api_Feature)) (ba1_0 : (List api_Feature)) : runZ (C39 M) (extZ (C39 M) (H M) 0) Z body plans (start (argHs ps (aa0_0, ba1_0)) Try.f39.ntmps 109) (K M) = s M
    (fun aa0_0 ba1_0 out6_1 i7_1 k8_1 => Z Qt1 (S1 aa0_0 ba1_0 out6_1 i7_1 k8_1)) aa0_0 ba1_0 := by kernel_rfl
theorem e3 (M : Nat) (Z1 : Ut) (h1 : Ht1) (hZ1 : ∀ (aa0_0 : (List api_Feature)) (ba1_0 : (List api_Feature)) (out6_1 : (List api_Feature)) (i7_1 : Int) (k8_1 : Int), Z1 (S1 aa0_0 ba1_0 out6_1 i7_1 k8_1) = h1 aa0_0 ba1_0 out6_1 i7_1 k8_1) (aa0_0 : (List api_Feature)) (ba1_0 : (List api_Feature)) (i7_1 : Int) (k8_1 : Int) (out6_1 : (List api_Feature)) (x36_3 : Bool) : zA M (zlq Qt3 [Z1]) Qt3 (S3 aa0_0 ba1_0 i7_1 k8_1 out6_1 x36_3) = j3 M h1 aa0_0 ba1_0 i7_1 k8_1 out6_1 x36_3 := by
  refine (seg_join (Hok M) 0 Qt3 body plans (K M) _ (S3 aa0_0 ba1_0 i7_1 k8_1 out6_1 x36_3) (around_zlq _ _ (by kernel_rfl)) (by kernel_rfl)).trans ?_
  refine (g3 M _ aa0_0 ba1_0 i7_1 k8_1 out6_1 x36_3).trans ?_
  have x0 := (funext fun aa0_0 => funext fun ba1_0 => funext fun out6_1 => funext fun i7_1 => funext fun k8_1 => Eq.trans (b := Z1 (S1 aa0_0 ba1_0 out6_1 i7_1 k8_1)) (by kernel_rfl) (hZ1 aa0_0 ba1_0 out6_1 i7_1 k8_1) : (fun aa0_0 ba1_0 out6_1 i7_1 k8_1 => zA M (zlq Qt3 [Z1]) Qt1 (S1 aa0_0 ba1_0 out6_1 i7_1 k8_1)) = h1)
  rw [x0]; rfl
theorem e2 (M : Nat) (Z1 : Ut) (h1 : Ht1) (hZ1 : ∀ (aa0_0 : (List api_Feature)) (ba1_0 : (List api_Feature)) (out6_1 : (List api_Feature)) (i7_1 : Int) (k8_1 : Int), Z1 (S1 aa0_0 ba1_0 out6_1 i7_1 k8_1) = h1 aa0_0 ba1_0 out6_1 i7_1 k8_1) (aa0_0 : (List api_Feature)) (ba1_0 : (List api_Feature)) (i7_1 : Int) (k8_1 : Int) (out6_1 : (List api_Feature)) : zA M (zlq Qt2 [Z1]) Qt2 (S2 aa0_0 ba1_0 i7_1 k8_1 out6_1) = j2 M h1 aa0_0 ba1_0 i7_1 k8_1 out6_1 := by
  refine (seg_join (Hok M) 0 Qt2 body plans (K M) _ (S2 aa0_0 ba1_0 i7_1 k8_1 out6_1) (around_zlq _ _ (by kernel_rfl)) (by kernel_rfl)).trans ?_
  refine (g2 M _ aa0_0 ba1_0 i7_1 k8_1 out6_1).trans ?_
  have x0 := (funext fun aa0_0 => funext fun ba1_0 => funext fun i7_1 => funext fun k8_1 => funext fun out6_1 => funext fun x36_3 => Eq.trans (b := zA M (zlq Qt3 [Z1]) Qt3 (S3 aa0_0 ba1_0 i7_1 k8_1 out6_1 x36_3)) (by kernel_rfl) (e3 M Z1 h1 hZ1 aa0_0 ba1_0 i7_1 k8_1 out6_1 x36_3) : (fun aa0_0 ba1_0 i7_1 k8_1 out6_1 x36_3 => zA M (zlq Qt2 [Z1]) Qt3 (S3 aa0_0 ba1_0 i7_1 k8_1 out6_1 x36_3)) = j3 M h1)
  rw [x0]; rfl
theorem el1 (M : Nat) (k : Nat) (aa0_0 : (List api_Feature)) (ba1_0 : (List api_Feature)) (out6_1 : (List api_Feature)) (i7_1 : Int) (k8_1 : Int) : lA M (zlq Qt1 []) Qt1 k (S1 aa0_0 ba1_0 out6_1 i7_1 k8_1) = l1 M k aa0_0 ba1_0 out6_1 i7_1 k8_1 := by
  induction k generalizing aa0_0 ba1_0 out6_1 i7_1 k8_1 with
  | zero => kernel_rfl
  | succ k ih =>
    refine Eq.trans (b := lA M (zlq Qt1 [lA M (zlq Qt1 []) Qt1 k]) Qt1 (k + 1) (S1 aa0_0 ba1_0 out6_1 i7_1 k8_1)) (by kernel_rfl) ?_
    refine (seg_loop (Hok M) 0 Qt1 body plans (K M) _ (S1 aa0_0 ba1_0 out6_1 i7_1 k8_1) (around_zlq _ _ (by kernel_rfl)) (by kernel_rfl) (by kernel_rfl)).trans ?_
    refine (g1 M _ aa0_0 ba1_0 out6_1 i7_1 k8_1).trans ?_
    have x0 := (funext fun aa0_0 => funext fun ba1_0 => funext fun i7_1 => funext fun k8_1 => funext fun out6_1 => Eq.trans (b := zA M (zlq Qt2 [(lA M (zlq Qt1 []) Qt1 k)]) Qt2 (S2 aa0_0 ba1_0 i7_1 k8_1 out6_1)) (by kernel_rfl) (e2 M (lA M (zlq Qt1 []) Qt1 k) (l1 M k) (fun aa0_0 ba1_0 out6_1 i7_1 k8_1 => ih aa0_0 ba1_0 out6_1 i7_1 k8_1) aa0_0 ba1_0 i7_1 k8_1 out6_1) : (fun aa0_0 ba1_0 i7_1 k8_1 out6_1 => zA M (zlq Qt1 [lA M (zlq Qt1 []) Qt1 k]) Qt2 (S2 aa0_0 ba1_0 i7_1 k8_1 out6_1)) = j2 M (l1 M k))
    rw [x0]; rfl
theorem e1 (M : Nat) (aa0_0 : (List api_Feature)) (ba1_0 : (List api_Feature)) (out6_1 : (List api_Feature)) (i7_1 : Int) (k8_1 : Int) : zA M (zlq Qt1 []) Qt1 (S1 aa0_0 ba1_0 out6_1 i7_1 k8_1) = l1 M M aa0_0 ba1_0 out6_1 i7_1 k8_1 :=
  Eq.trans (b := lA M (zlq Qt1 []) Qt1 M (S1 aa0_0 ba1_0 out6_1 i7_1 k8_1)) (by kernel_rfl) (el1 M M aa0_0 ba1_0 out6_1 i7_1 k8_1)
theorem run (M : Nat) (aa0_0 : (List api_Feature)) (ba1_0 : (List api_Feature)) : runF (rs := rs) (C39 M) (X M) M body Try.f39.ntmps 109 Try.f39.results.toList plans ps ex (aa0_0, ba1_0) = feature_Unify M aa0_0 ba1_0 := by
  refine Eq.trans (b := runC (C39 M) (X M) M body plans (start (argHs ps (aa0_0, ba1_0)) Try.f39.ntmps 109) (K M)) (by kernel_rfl) ?_
  refine (zrun (Hok M) 0 body plans _ (K M) (fun _ => none) fun _ => rfl).symm.trans ?_
  refine (g M _ aa0_0 ba1_0).trans ?_
  have x0 := (funext fun aa0_0 => funext fun ba1_0 => funext fun out6_1 => funext fun i7_1 => funext fun k8_1 => Eq.trans (b := zA M (zlq Qt1 []) Qt1 (S1 aa0_0 ba1_0 out6_1 i7_1 k8_1)) (by kernel_rfl) (e1 M aa0_0 ba1_0 out6_1 i7_1 k8_1) : (fun aa0_0 ba1_0 out6_1 i7_1 k8_1 => zA M (fun _ => none) Qt1 (S1 aa0_0 ba1_0 out6_1 i7_1 k8_1)) = l1 M M)
  rw [x0]; rfl
noncomputable def sig (M : Nat) : Sig E := { ps := ps, rs := rs, ex := ex, fn := fun x => feature_Unify M x.1 x.2 }
theorem says (M : Nat) : callable Try.prog 39 = true ∧ ∀ x y, (sig M).fn x = some y → Says Try.prog 39 (sig M) x y := by
  refine ⟨by kernel_rfl, fun x y h => ?_⟩
  refine says_of_run (S := sig M) (C := C39 M) (X := X M) (M := M) (q := 109) (plans := plans) (COk_Try) (SigOk_C39 M) (ItOk_C39 M) (by kernel_rfl) (callOk_ext COk_Try (SigOk_C39 M) (ItOk_C39 M) (by kernel_rfl) inl_ok.ok (RSigOk_C39 M) (fun _ => callOk_none) M 1) (Try.func39) (body := body) (by kernel_rfl) (by kernel_rfl) ?_
  obtain ⟨aa0_0, ba1_0⟩ := x
  exact (run M aa0_0 ba1_0).trans h
end feature_Unify
end Go.Ai.Par
end
set_option linter.unusedVariables false
set_option linter.unusedSectionVars false
noncomputable section
namespace Go.Ai.Par
open Go Go.Ai Go.Proofs
noncomputable def sigs53 (M : Nat) : List (Nat × Sig E) := []
noncomputable def rs53 (M : Nat) : List (Nat × Sig E) := []
noncomputable def its53 (M : Nat) : List (Nat × It E) := []
theorem sigs_ok53 (M : Nat) : SigsOk Try.prog (sigs53 M) := SigsOk.nil
theorem rs_ok53 (M : Nat) : SigsOk Try.prog (rs53 M) := SigsOk.nil
theorem its_ok53 (M : Nat) : ItsOk Try.prog (its53 M) := ItsOk.nil
noncomputable def C53 (M : Nat) : Ctx E := { ti := fun t => tisE.lookup t, sig := fun f => (sigs53 M).lookup f, it := fun f => (its53 M).lookup f, nt := 40 }
theorem SigOk_C53 (M : Nat) : SigOk Try.prog (C53 M) := sigs_ok53 M
theorem RSigOk_C53 (M : Nat) : SigOk Try.prog ({ ti := fun _ => none, sig := fun f => (rs53 M).lookup f } : Ctx E) := rs_ok53 M
theorem ItOk_C53 (M : Nat) : ItOk Try.prog (C53 M) := (its_ok53 M).ok
namespace pentaglotref02_Put
noncomputable def plans : List (Option (Plan Nm)) := [none, none, none, some { tmps := [(0, .asis), (3, .asis), (5, .own (100005, 0, 71) (.st .api_Feature)), (6, .asis)], boxes := [(3, [.asis, .asis])] }, none, none, none, some { tmps := [(0, .asis), (3, .asis), (5, .own (100005, 0, 71) (.st .api_Feature)), (6, .asis)], boxes := [(3, [.asis, .asis])] }, none, none]
noncomputable abbrev body : Code := bodyOf Try.f53
def ps : List (Ty Nm) := [(.sl (.st .api_Feature)), (.st .api_Feature)]
def rs : List (Ty Nm) := [(.sl (.st .api_Feature))]
def ex : List (Option Nat) := [some 71]
noncomputable def inl : List (Nat × Nat × Nat × Inl Nm) := []
theorem inl_ok : InlsOk Try.prog inl := InlsOk.nil
noncomputable def X (M : Nat) : Ext E (List api_Feature) := extOf (C53 M) (inlOf inl) (fun f => (rs53 M).lookup f) (fun _ _ _ => none) noX M 1
abbrev Rt := (List api_Feature)
noncomputable def H (M : Nat) : Hd E Rt := hd0 (X M)
theorem Hok (M : Nat) : (H M).ok (C53 M) M := hd0_ok _
abbrev Qt2 : List Dir := [.r, .r, .r]
abbrev Ht2 := api_Feature → (List api_Feature) → (List api_Feature) → Int → Option Rt
abbrev Qt1 : List Dir := [.r, .r, .r, .l, .k]
abbrev Ht1 := api_Feature → (List api_Feature) → (List api_Feature) → Int → Option Rt
abbrev Zt := List Dir → St E → Option Rt
abbrev Ut := St E → Option Rt
noncomputable def s2 (M : Nat) (fa1_0 : api_Feature) (ra0_0 : (List api_Feature)) (out5_2 : (List api_Feature)) (k6_2 : Int) : Option Rt :=
  cond (decide (out5_2.length + ([fa1_0] : List api_Feature).length ≤ lim))
   (cond (decide (0 ≤ k6_2) && decide (k6_2 ≤ (ra0_0.length : Int)))
     (cond (decide ((out5_2 ++ [fa1_0]).length + (ra0_0.drop k6_2.toNat).length ≤ lim))
       (some ((out5_2 ++ [fa1_0]) ++ (ra0_0.drop k6_2.toNat)))
       none)
     none)
   none
noncomputable def j2 (M : Nat) (fa1_0 : api_Feature) (ra0_0 : (List api_Feature)) (out5_2 : (List api_Feature)) (k6_2 : Int) : Option Rt :=
  s2 M fa1_0 ra0_0 out5_2 k6_2
noncomputable def s1 (M : Nat) (h1 : Ht1) (h2 : Ht2) (fa1_0 : api_Feature) (ra0_0 : (List api_Feature)) (out5_1 : (List api_Feature)) (k6_1 : Int) : Option Rt :=
  cond (decide (k6_1 < (ra0_0.length : Int)))
   (cond (decide (0 ≤ k6_1) && decide (k6_1 < (ra0_0.length : Int)))
     (cond (Op.bytesLess ((ra0_0.getD k6_1.toNat default).fName) fa1_0.fName)
       (cond (decide (0 ≤ k6_1) && decide (k6_1 < (ra0_0.length : Int)))
         (cond (decide (out5_1.length + ([(ra0_0.getD k6_1.toNat default)] : List api_Feature).length ≤ lim))
           (h1 fa1_0 ra0_0 (out5_1 ++ [(ra0_0.getD k6_1.toNat default)]) (IntKind.i64.wrap (k6_1 + 1)))
           none)
         none)
       (h2 fa1_0 ra0_0 out5_1 k6_1))
     none)
   (h2 fa1_0 ra0_0 out5_1 k6_1)
noncomputable def l1 (M : Nat) : Nat → Ht1
  | 0, _, _, _, _ => none
  | k + 1, fa1_0, ra0_0, out5_1, k6_1 => s1 M (l1 M k) (j2 M) fa1_0 ra0_0 out5_1 k6_1
noncomputable def s (M : Nat) (h1 : Ht1) (ra0_0 : (List api_Feature)) (fa1_0 : api_Feature) : Option Rt :=
  h1 fa1_0 ra0_0 ([] : (List api_Feature)) 0
end pentaglotref02_Put
noncomputable def pentaglotref02_Put (M : Nat) (ra0_0 : (List api_Feature)) (fa1_0 : api_Feature) : Option (List api_Feature) :=
  pentaglotref02_Put.s M (pentaglotref02_Put.l1 M M) ra0_0 fa1_0
namespace pentaglotref02_Put
noncomputable def S2 (fa1_0 : api_Feature) (ra0_0 : (List api_Feature)) (out5_2 : (List api_Feature)) (k6_2 : Int) : St E :=
  mkSt 40 40 [(0, .one (.tv (.sl (.st .api_Feature) ra0_0))), (3, .one (.ptr 3 0)), (5, .one (.tok (100005, 0, 71) (.st .api_Feature) out5_2)), (6, .one (.tv (.int .i64 k6_2)))] [(3, .cells [.tv (.str fa1_0.fName), .tv (.str fa1_0.fValue)])] 0 [] [] false
noncomputable def S1 (fa1_0 : api_Feature) (ra0_0 : (List api_Feature)) (out5_1 : (List api_Feature)) (k6_1 : Int) : St E :=
  mkSt 40 40 [(0, .one (.tv (.sl (.st .api_Feature) ra0_0))), (3, .one (.ptr 3 0)), (5, .one (.tok (100005, 0, 71) (.st .api_Feature) out5_1)), (6, .one (.tv (.int .i64 k6_1)))] [(3, .cells [.tv (.str fa1_0.fName), .tv (.str fa1_0.fValue)])] 0 [] [] false
noncomputable def K (M : Nat) : Cont E (List api_Feature) := kRet (C53 M) Try.f53.results.toList rs ex
noncomputable abbrev zA (M : Nat) (ZL : List Dir → Option (Ut)) (q : List Dir) : Ut := zAt (C53 M) (H M) M 0 ZL body plans (K M) q
noncomputable abbrev lA (M : Nat) (ZL : List Dir → Option (Ut)) (q : List Dir) (k : Nat) : Ut := lpAt (C53 M) (H M) M 0 ZL body plans (K M) q k
noncomputable abbrev gA (M : Nat) (Z : Zt) (q : List Dir) : Ut := seg (C53 M) (H M) 0 Z body plans (K M) q
set_option maxRecDepth 100000
theorem g2 (M : Nat) (Z : Zt) (fa1_0 : api_Feature) (ra0_0 : (List api_Feature)) (out5_2 : (List api_Feature)) (k6_2 : Int) : gA M Z Qt2 (S2 fa1_0 ra0_0 out5_2 k6_2) = s2 M fa1_0 ra0_0 out5_2 k6_2 := by kernel_rfl
theorem g1 (M : Nat) (Z : Zt) (fa1_0 : api_Feature) (ra0_0 : (List api_Feature)) (out5_1 : (List api_Feature)) (k6_1 : Int) : gA M Z Qt1 (S1 fa1_0 ra0_0 out5_1 k6_1) = s1 M
    (fun fa1_0 ra0_0 out5_1 k6_1 => Z Qt1 (S1 fa1_0 ra0_0 out5_1 k6_1))
    (fun fa1_0 ra0_0 out5_2 k6_2 => Z Qt2 (S2 fa1_0 ra0_0 out5_2 k6_2)) fa1_0 ra0_0 out5_1 k6_1 := by kernel_rfl
theorem g (M : Nat) (Z : Zt) (ra0_0 : (List api_Feature)) (fa1_0 : api_Feature) : runZ (C53 M) (extZ (C53 M) (H M) 0) Z body plans (start (argHs ps (ra0_0, fa1_0)) Try.f53.ntmps 40) (K M) = s M
    (fun fa1_0 ra0_0 out5_1 k6_1 => Z Qt1 (S1 fa1_0 ra0_0 out5_1 k6_1)) ra0_0 fa1_0 := by kernel_rfl
theorem e2 (M : Nat) (fa1_0 : api_Feature) (ra0_0 : (List api_Feature)) (out5_2 : (List api_Feature)) (k6_2 : Int) : zA M (zlq Qt2 []) Qt2 (S2 fa1_0 ra0_0 out5_2 k6_2) = j2 M fa1_0 ra0_0 out5_2 k6_2 := by
  refine (seg_join (Hok M) 0 Qt2 body plans (K M) _ (S2 fa1_0 ra0_0 out5_2 k6_2) (around_zlq _ _ (by kernel_rfl)) (by kernel_rfl)).trans ?_
  refine (g2 M _ fa1_0 ra0_0 out5_2 k6_2).trans ?_
  rfl
theorem el1 (M : Nat) (k : Nat) (fa1_0 : api_Feature) (ra0_0 : (List api_Feature)) (out5_1 : (List api_Feature)) (k6_1 : Int) : lA M (zlq Qt1 []) Qt1 k (S1 fa1_0 ra0_0 out5_1 k6_1) = l1 M k fa1_0 ra0_0 out5_1 k6_1 := by
  induction k generalizing fa1_0 ra0_0 out5_1 k6_1 with
  | zero => kernel_rfl
  | succ k ih =>
    refine Eq.trans (b := lA M (zlq Qt1 [lA M (zlq Qt1 []) Qt1 k]) Qt1 (k + 1) (S1 fa1_0 ra0_0 out5_1 k6_1)) (by kernel_rfl) ?_
    refine (seg_loop (Hok M) 0 Qt1 body plans (K M) _ (S1 fa1_0 ra0_0 out5_1 k6_1) (around_zlq _ _ (by kernel_rfl)) (by kernel_rfl) (by kernel_rfl)).trans ?_
    refine (g1 M _ fa1_0 ra0_0 out5_1 k6_1).trans ?_
    have x0 := (funext fun fa1_0 => funext fun ra0_0 => funext fun out5_1 => funext fun k6_1 => Eq.trans (b := lA M (zlq Qt1 []) Qt1 k (S1 fa1_0 ra0_0 out5_1 k6_1)) (by kernel_rfl) (ih fa1_0 ra0_0 out5_1 k6_1) : (fun fa1_0 ra0_0 out5_1 k6_1 => zA M (zlq Qt1 [lA M (zlq Qt1 []) Qt1 k]) Qt1 (S1 fa1_0 ra0_0 out5_1 k6_1)) = l1 M k)
    have x1 := (funext fun fa1_0 => funext fun ra0_0 => funext fun out5_2 => funext fun k6_2 => Eq.trans (b := zA M (zlq Qt2 []) Qt2 (S2 fa1_0 ra0_0 out5_2 k6_2)) (by kernel_rfl) (e2 M fa1_0 ra0_0 out5_2 k6_2) : (fun fa1_0 ra0_0 out5_2 k6_2 => zA M (zlq Qt1 [lA M (zlq Qt1 []) Qt1 k]) Qt2 (S2 fa1_0 ra0_0 out5_2 k6_2)) = j2 M)
    rw [x0, x1]; rfl
theorem e1 (M : Nat) (fa1_0 : api_Feature) (ra0_0 : (List api_Feature)) (out5_1 : (List api_Feature)) (k6_1 : Int) : zA M (zlq Qt1 []) Qt1 (S1 fa1_0 ra0_0 out5_1 k6_1) = l1 M M fa1_0 ra0_0 out5_1 k6_1 :=
  Eq.trans (b := lA M (zlq Qt1 []) Qt1 M (S1 fa1_0 ra0_0 out5_1 k6_1)) (by kernel_rfl) (el1 M M fa1_0 ra0_0 out5_1 k6_1)
theorem run (M : Nat) (ra0_0 : (List api_Feature)) (fa1_0 : api_Feature) : runF (rs := rs) (C53 M) (X M) M body Try.f53.ntmps 40 Try.f53.results.toList plans ps ex (ra0_0, fa1_0) = pentaglotref02_Put M ra0_0 fa1_0 := by
  refine Eq.trans (b := runC (C53 M) (X M) M body plans (start (argHs ps (ra0_0, fa1_0)) Try.f53.ntmps 40) (K M)) (by kernel_rfl) ?_
  refine (zrun (Hok M) 0 body plans _ (K M) (fun _ => none) fun _ => rfl).symm.trans ?_
  refine (g M _ ra0_0 fa1_0).trans ?_
  have x0 := (funext fun fa1_0 => funext fun ra0_0 => funext fun out5_1 => funext fun k6_1 => Eq.trans (b := zA M (zlq Qt1 []) Qt1 (S1 fa1_0 ra0_0 out5_1 k6_1)) (by kernel_rfl) (e1 M fa1_0 ra0_0 out5_1 k6_1) : (fun fa1_0 ra0_0 out5_1 k6_1 => zA M (fun _ => none) Qt1 (S1 fa1_0 ra0_0 out5_1 k6_1)) = l1 M M)
  rw [x0]; rfl
noncomputable def sig (M : Nat) : Sig E := { ps := ps, rs := rs, ex := ex, fn := fun x => pentaglotref02_Put M x.1 x.2 }
theorem says (M : Nat) : callable Try.prog 53 = true ∧ ∀ x y, (sig M).fn x = some y → Says Try.prog 53 (sig M) x y := by
  refine ⟨by kernel_rfl, fun x y h => ?_⟩
  refine says_of_run (S := sig M) (C := C53 M) (X := X M) (M := M) (q := 40) (plans := plans) (COk_Try) (SigOk_C53 M) (ItOk_C53 M) (by kernel_rfl) (callOk_ext COk_Try (SigOk_C53 M) (ItOk_C53 M) (by kernel_rfl) inl_ok.ok (RSigOk_C53 M) (fun _ => callOk_none) M 1) (Try.func53) (body := body) (by kernel_rfl) (by kernel_rfl) ?_
  obtain ⟨ra0_0, fa1_0⟩ := x
  exact (run M ra0_0 fa1_0).trans h
end pentaglotref02_Put
end Go.Ai.Par
end
set_option linter.unusedVariables false
set_option linter.unusedSectionVars false
noncomputable section
namespace Go.Ai.Par
open Go Go.Ai Go.Proofs
noncomputable def sigs41 (M : Nat) : List (Nat × Sig E) := [(53, pentaglotref02_Put.sig M), (61, pentaglotref02_Index.sig M)]
noncomputable def rs41 (M : Nat) : List (Nat × Sig E) := []
noncomputable def its41 (M : Nat) : List (Nat × It E) := []
theorem sigs_ok41 (M : Nat) : SigsOk Try.prog (sigs41 M) := SigsOk.cons (pentaglotref02_Put.says M) (SigsOk.cons (pentaglotref02_Index.says M) (SigsOk.nil))
theorem rs_ok41 (M : Nat) : SigsOk Try.prog (rs41 M) := SigsOk.nil
theorem its_ok41 (M : Nat) : ItsOk Try.prog (its41 M) := ItsOk.nil
noncomputable def C41 (M : Nat) : Ctx E := { ti := fun t => tisE.lookup t, sig := fun f => (sigs41 M).lookup f, it := fun f => (its41 M).lookup f, nt := 49 }
theorem SigOk_C41 (M : Nat) : SigOk Try.prog (C41 M) := sigs_ok41 M
theorem RSigOk_C41 (M : Nat) : SigOk Try.prog ({ ti := fun _ => none, sig := fun f => (rs41 M).lookup f } : Ctx E) := rs_ok41 M
theorem ItOk_C41 (M : Nat) : ItOk Try.prog (C41 M) := (its_ok41 M).ok
namespace pentaglotref02_Unify
noncomputable def plans : List (Option (Plan Nm)) := [none, none, none, some { tmps := [(0, .asis), (1, .asis), (6, .own (100006, 0, 71) (.st .api_Feature)), (7, .asis)], boxes := [] }, none, none, none, none, none, some { tmps := [(0, .asis), (1, .asis), (6, .own (100006, 0, 71) (.st .api_Feature)), (7, .asis), (8, .asis)], boxes := [] }, none, none, none, none]
noncomputable abbrev body : Code := bodyOf Try.f41
def ps : List (Ty Nm) := [(.sl (.st .api_Feature)), (.sl (.st .api_Feature))]
def rs : List (Ty Nm) := [(.sl (.st .api_Feature)), .bool]
def ex : List (Option Nat) := [some 71, none]
noncomputable def inl : List (Nat × Nat × Nat × Inl Nm) := []
theorem inl_ok : InlsOk Try.prog inl := InlsOk.nil
noncomputable def X (M : Nat) : Ext E ((List api_Feature) × Bool) := extOf (C41 M) (inlOf inl) (fun f => (rs41 M).lookup f) (fun _ _ _ => none) noX M 1
abbrev Rt := (List api_Feature) × Bool
noncomputable def H (M : Nat) : Hd E Rt := hd0 (X M)
theorem Hok (M : Nat) : (H M).ok (C41 M) M := hd0_ok _
abbrev Qt2 : List Dir := [.r, .r, .l, .r, .k, .L, .r, .l, .k, .r]
abbrev Ht2 := (List api_Feature) → (List api_Feature) → Int → (List api_Feature) → Int → Option Rt
abbrev Qt1 : List Dir := [.r, .r, .l, .r, .k]
abbrev Ht1 := (List api_Feature) → (List api_Feature) → (List api_Feature) → Int → Option Rt
abbrev Zt := List Dir → St E → Option Rt
abbrev Ut := St E → Option Rt
noncomputable def s2 (M : Nat) (h1 : Ht1) (aa0_0 : (List api_Feature)) (ba1_0 : (List api_Feature)) (i7_1 : Int) (out6_1 : (List api_Feature)) (r24_7 : Int) : Option Rt :=
  cond (decide (r24_7 < 0))
   (cond (decide (0 ≤ i7_1) && decide (i7_1 < (ba1_0.length : Int)))
     (Option.bind (pentaglotref02_Put M out6_1 (ba1_0.getD i7_1.toNat default)) fun r47_8 =>
      h1 aa0_0 ba1_0 r47_8 (IntKind.i64.wrap (i7_1 + 1)))
     none)
   (h1 aa0_0 ba1_0 out6_1 (IntKind.i64.wrap (i7_1 + 1)))
noncomputable def j2 (M : Nat) (h1 : Ht1) (aa0_0 : (List api_Feature)) (ba1_0 : (List api_Feature)) (i7_1 : Int) (out6_1 : (List api_Feature)) (r24_7 : Int) : Option Rt :=
  s2 M h1 aa0_0 ba1_0 i7_1 out6_1 r24_7
noncomputable def s1 (M : Nat) (h2 : Ht2) (aa0_0 : (List api_Feature)) (ba1_0 : (List api_Feature)) (out6_1 : (List api_Feature)) (i7_1 : Int) : Option Rt :=
  cond (decide (i7_1 < (ba1_0.length : Int)))
   (cond (decide (0 ≤ i7_1) && decide (i7_1 < (ba1_0.length : Int)))
     (Option.bind (pentaglotref02_Index M aa0_0 ((ba1_0.getD i7_1.toNat default).fName)) fun r24_7 =>
      cond (decide (0 ≤ r24_7))
       (cond (decide (0 ≤ r24_7) && decide (r24_7 < (aa0_0.length : Int)))
         (cond (decide (0 ≤ i7_1) && decide (i7_1 < (ba1_0.length : Int)))
           (cond (!decide (((aa0_0.getD r24_7.toNat default).fValue) = ((ba1_0.getD i7_1.toNat default).fValue)))
             (some ([], false))
             (h2 aa0_0 ba1_0 i7_1 out6_1 r24_7))
           none)
         none)
       (h2 aa0_0 ba1_0 i7_1 out6_1 r24_7))
     none)
   (some (out6_1, true))
noncomputable def l1 (M : Nat) : Nat → Ht1
  | 0, _, _, _, _ => none
  | k + 1, aa0_0, ba1_0, out6_1, i7_1 => s1 M (j2 M (l1 M k)) aa0_0 ba1_0 out6_1 i7_1
noncomputable def s (M : Nat) (h1 : Ht1) (aa0_0 : (List api_Feature)) (ba1_0 : (List api_Feature)) : Option Rt :=
  cond (decide (([] : List api_Feature).length + aa0_0.length ≤ lim))
   (h1 aa0_0 ba1_0 ([] ++ aa0_0) 0)
   none
end pentaglotref02_Unify
noncomputable def pentaglotref02_Unify (M : Nat) (aa0_0 : (List api_Feature)) (ba1_0 : (List api_Feature)) : Option ((List api_Feature) × Bool) :=
  pentaglotref02_Unify.s M (pentaglotref02_Unify.l1 M M) aa0_0 ba1_0
namespace pentaglotref02_Unify
noncomputable def S2 (aa0_0 : (List api_Feature)) (ba1_0 : (List api_Feature)) (i7_1 : Int) (out6_1 : (List api_Feature)) (r24_7 : Int) : St E :=
  mkSt 49 49 [(0, .one (.tv (.sl (.st .api_Feature) aa0_0))), (1, .one (.tv (.sl (.st .api_Feature) ba1_0))), (6, .one (.tok (100006, 0, 71) (.st .api_Feature) out6_1)), (7, .one (.tv (.int .i64 i7_1))), (8, .one (.tv (.int .i64 r24_7)))] [] 0 [] [] false
noncomputable def S1 (aa0_0 : (List api_Feature)) (ba1_0 : (List api_Feature)) (out6_1 : (List api_Feature)) (i7_1 : Int) : St E :=
  mkSt 49 49 [(0, .one (.tv (.sl (.st .api_Feature) aa0_0))), (1, .one (.tv (.sl (.st .api_Feature) ba1_0))), (6, .one (.tok (100006, 0, 71) (.st .api_Feature) out6_1)), (7, .one (.tv (.int .i64 i7_1)))] [] 0 [] [] false
noncomputable def K (M : Nat) : Cont E ((List api_Feature) × Bool) := kRet (C41 M) Try.f41.results.toList rs ex
noncomputable abbrev zA (M : Nat) (ZL : List Dir → Option (Ut)) (q : List Dir) : Ut := zAt (C41 M) (H M) M 0 ZL body plans (K M) q
noncomputable abbrev lA (M : Nat) (ZL : List Dir → Option (Ut)) (q : List Dir) (k : Nat) : Ut := lpAt (C41 M) (H M) M 0 ZL body plans (K M) q k
noncomputable abbrev gA (M : Nat) (Z : Zt) (q : List Dir) : Ut := seg (C41 M) (H M) 0 Z body plans (K M) q
set_option maxRecDepth 100000
theorem g2 (M : Nat) (Z : Zt) (aa0_0 : (List api_Feature)) (ba1_0 : (List api_Feature)) (i7_1 : Int) (out6_1 : (List api_Feature)) (r24_7 : Int) : gA M Z Qt2 (S2 aa0_0 ba1_0 i7_1 out6_1 r24_7) = s2 M
    (fun aa0_0 ba1_0 out6_1 i7_1 => Z Qt1 (S1 aa0_0 ba1_0 out6_1 i7_1)) aa0_0 ba1_0 i7_1 out6_1 r24_7 := by kernel_rfl
theorem g1 (M : Nat) (Z : Zt) (aa0_0 : (List api_Feature)) (ba1_0 : (List api_Feature)) (out6_1 : (List api_Feature)) (i7_1 : Int) : gA M Z Qt1 (S1 aa0_0 ba1_0 out6_1 i7_1) = s1 M
    (fun aa0_0 ba1_0 i7_1 out6_1 r24_7 => Z Qt2 (S2 aa0_0 ba1_0 i7_1 out6_1 r24_7)) aa0_0 ba1_0 out6_1 i7_1 := by kernel_rfl
theorem g (M : Nat) (Z : Zt) (aa0_0 : (List api_Feature)) (ba1_0 : (List api_Feature)) : runZ (C41 M) (extZ (C41 M) (H M) 0) Z body plans (start (argHs ps (aa0_0, ba1_0)) Try.f41.ntmps 49) (K M) = s M
    (fun aa0_0 ba1_0 out6_1 i7_1 => Z Qt1 (S1 aa0_0 ba1_0 out6_1 i7_1)) aa0_0 ba1_0 := by kernel_rfl
theorem e2 (M : Nat) (Z1 : Ut) (h1 : Ht1) (hZ1 : ∀ (aa0_0 : (List api_Feature)) (ba1_0 : (List api_Feature)) (out6_1 : (List api_Feature)) (i7_1 : Int), Z1 (S1 aa0_0 ba1_0 out6_1 i7_1) = h1 aa0_0 ba1_0 out6_1 i7_1) (aa0_0 : (List api_Feature)) (ba1_0 : (List api_Feature)) (i7_1 : Int) (out6_1 : (List api_Feature)) (r24_7 : Int) : zA M (zlq Qt2 [Z1]) Qt2 (S2 aa0_0 ba1_0 i7_1 out6_1 r24_7) = j2 M h1 aa0_0 ba1_0 i7_1 out6_1 r24_7 := by
  refine (seg_join (Hok M) 0 Qt2 body plans (K M) _ (S2 aa0_0 ba1_0 i7_1 out6_1 r24_7) (around_zlq _ _ (by kernel_rfl)) (by kernel_rfl)).trans ?_
  refine (g2 M _ aa0_0 ba1_0 i7_1 out6_1 r24_7).trans ?_
  have x0 := (funext fun aa0_0 => funext fun ba1_0 => funext fun out6_1 => funext fun i7_1 => Eq.trans (b := Z1 (S1 aa0_0 ba1_0 out6_1 i7_1)) (by kernel_rfl) (hZ1 aa0_0 ba1_0 out6_1 i7_1) : (fun aa0_0 ba1_0 out6_1 i7_1 => zA M (zlq Qt2 [Z1]) Qt1 (S1 aa0_0 ba1_0 out6_1 i7_1)) = h1)
  rw [x0]; rfl
theorem el1 (M : Nat) (k : Nat) (aa0_0 : (List api_Feature)) (ba1_0 : (List api_Feature)) (out6_1 : (List api_Feature)) (i7_1 : Int) : lA M (zlq Qt1 []) Qt1 k (S1 aa0_0 ba1_0 out6_1 i7_1) = l1 M k aa0_0 ba1_0 out6_1 i7_1 := by
  induction k generalizing aa0_0 ba1_0 out6_1 i7_1 with
  | zero => kernel_rfl
  | succ k ih =>
    refine Eq.trans (b := lA M (zlq Qt1 [lA M (zlq Qt1 []) Qt1 k]) Qt1 (k + 1) (S1 aa0_0 ba1_0 out6_1 i7_1)) (by kernel_rfl) ?_
    refine (seg_loop (Hok M) 0 Qt1 body plans (K M) _ (S1 aa0_0 ba1_0 out6_1 i7_1) (around_zlq _ _ (by kernel_rfl)) (by kernel_rfl) (by kernel_rfl)).trans ?_
    refine (g1 M _ aa0_0 ba1_0 out6_1 i7_1).trans ?_
    have x0 := (funext fun aa0_0 => funext fun ba1_0 => funext fun i7_1 => funext fun out6_1 => funext fun r24_7 => Eq.trans (b := zA M (zlq Qt2 [(lA M (zlq Qt1 []) Qt1 k)]) Qt2 (S2 aa0_0 ba1_0 i7_1 out6_1 r24_7)) (by kernel_rfl) (e2 M (lA M (zlq Qt1 []) Qt1 k) (l1 M k) (fun aa0_0 ba1_0 out6_1 i7_1 => ih aa0_0 ba1_0 out6_1 i7_1) aa0_0 ba1_0 i7_1 out6_1 r24_7) : (fun aa0_0 ba1_0 i7_1 out6_1 r24_7 => zA M (zlq Qt1 [lA M (zlq Qt1 []) Qt1 k]) Qt2 (S2 aa0_0 ba1_0 i7_1 out6_1 r24_7)) = j2 M (l1 M k))
    rw [x0]; rfl
theorem e1 (M : Nat) (aa0_0 : (List api_Feature)) (ba1_0 : (List api_Feature)) (out6_1 : (List api_Feature)) (i7_1 : Int) : zA M (zlq Qt1 []) Qt1 (S1 aa0_0 ba1_0 out6_1 i7_1) = l1 M M aa0_0 ba1_0 out6_1 i7_1 :=
  Eq.trans (b := lA M (zlq Qt1 []) Qt1 M (S1 aa0_0 ba1_0 out6_1 i7_1)) (by kernel_rfl) (el1 M M aa0_0 ba1_0 out6_1 i7_1)
theorem run (M : Nat) (aa0_0 : (List api_Feature)) (ba1_0 : (List api_Feature)) : runF (rs := rs) (C41 M) (X M) M body Try.f41.ntmps 49 Try.f41.results.toList plans ps ex (aa0_0, ba1_0) = pentaglotref02_Unify M aa0_0 ba1_0 := by
  refine Eq.trans (b := runC (C41 M) (X M) M body plans (start (argHs ps (aa0_0, ba1_0)) Try.f41.ntmps 49) (K M)) (by kernel_rfl) ?_
  refine (zrun (Hok M) 0 body plans _ (K M) (fun _ => none) fun _ => rfl).symm.trans ?_
  refine (g M _ aa0_0 ba1_0).trans ?_
  have x0 := (funext fun aa0_0 => funext fun ba1_0 => funext fun out6_1 => funext fun i7_1 => Eq.trans (b := zA M (zlq Qt1 []) Qt1 (S1 aa0_0 ba1_0 out6_1 i7_1)) (by kernel_rfl) (e1 M aa0_0 ba1_0 out6_1 i7_1) : (fun aa0_0 ba1_0 out6_1 i7_1 => zA M (fun _ => none) Qt1 (S1 aa0_0 ba1_0 out6_1 i7_1)) = l1 M M)
  rw [x0]; rfl
noncomputable def sig (M : Nat) : Sig E := { ps := ps, rs := rs, ex := ex, fn := fun x => pentaglotref02_Unify M x.1 x.2 }
theorem says (M : Nat) : callable Try.prog 41 = true ∧ ∀ x y, (sig M).fn x = some y → Says Try.prog 41 (sig M) x y := by
  refine ⟨by kernel_rfl, fun x y h => ?_⟩
  refine says_of_run (S := sig M) (C := C41 M) (X := X M) (M := M) (q := 49) (plans := plans) (COk_Try) (SigOk_C41 M) (ItOk_C41 M) (by kernel_rfl) (callOk_ext COk_Try (SigOk_C41 M) (ItOk_C41 M) (by kernel_rfl) inl_ok.ok (RSigOk_C41 M) (fun _ => callOk_none) M 1) (Try.func41) (body := body) (by kernel_rfl) (by kernel_rfl) ?_
  obtain ⟨aa0_0, ba1_0⟩ := x
  exact (run M aa0_0 ba1_0).trans h
end pentaglotref02_Unify
end Go.Ai.Par
end
set_option linter.unusedVariables false
set_option linter.unusedSectionVars false
noncomputable section
namespace Go.Ai.Par
open Go Go.Ai Go.Proofs
noncomputable def sigs73 (M : Nat) : List (Nat × Sig E) := []
noncomputable def rs73 (M : Nat) : List (Nat × Sig E) := []
noncomputable def its73 (M : Nat) : List (Nat × It E) := []
theorem sigs_ok73 (M : Nat) : SigsOk Try.prog (sigs73 M) := SigsOk.nil
theorem rs_ok73 (M : Nat) : SigsOk Try.prog (rs73 M) := SigsOk.nil
theorem its_ok73 (M : Nat) : ItsOk Try.prog (its73 M) := ItsOk.nil
noncomputable def C73 (M : Nat) : Ctx E := { ti := fun t => tisE.lookup t, sig := fun f => (sigs73 M).lookup f, it := fun f => (its73 M).lookup f, nt := 45 }
theorem SigOk_C73 (M : Nat) : SigOk Try.prog (C73 M) := sigs_ok73 M
theorem RSigOk_C73 (M : Nat) : SigOk Try.prog ({ ti := fun _ => none, sig := fun f => (rs73 M).lookup f } : Ctx E) := rs_ok73 M
theorem ItOk_C73 (M : Nat) : ItOk Try.prog (C73 M) := (its_ok73 M).ok
namespace feature_Subsumes
noncomputable def plans : List (Option (Plan Nm)) := [none, none, none, some { tmps := [(1, .asis), (5, .asis), (8, .asis), (9, .asis), (10, .asis)], boxes := [] }, none, none, none, some { tmps := [(1, .asis), (5, .asis), (7, .asis), (8, .asis), (9, .asis), (10, .asis)], boxes := [(7, [.asis, .asis])] }, none, none, some { tmps := [(1, .asis), (5, .asis), (7, .asis), (8, .asis), (9, .asis), (10, .asis)], boxes := [(7, [.asis, .asis])] }, none, none, none, none, none, none]
noncomputable abbrev body : Code := bodyOf Try.f73
def ps : List (Ty Nm) := [(.sl (.st .api_Feature)), (.sl (.st .api_Feature))]
def rs : List (Ty Nm) := [.bool]
def ex : List (Option Nat) := [none]
noncomputable def inl : List (Nat × Nat × Nat × Inl Nm) := []
theorem inl_ok : InlsOk Try.prog inl := InlsOk.nil
noncomputable def X (M : Nat) : Ext E Bool := extOf (C73 M) (inlOf inl) (fun f => (rs73 M).lookup f) (fun _ _ _ => none) noX M 1
abbrev Rt := Bool
noncomputable def H (M : Nat) : Hd E Rt := hd0 (X M)
theorem Hok (M : Nat) : (H M).ok (C73 M) M := hd0_ok _
abbrev Qt3 : List Dir := [.r, .r, .l, .r, .k, .L, .r, .r, .l, .k, .r]
abbrev Ht3 := (List api_Feature) → (List api_Feature) → Int → Int → Option Rt
abbrev Qt2 : List Dir := [.r, .r, .l, .r, .k, .L, .r, .r, .l, .k, .r, .l, .k]
abbrev Ht2 := (List api_Feature) → (List api_Feature) → Int → Int → Option Rt
abbrev Qt1 : List Dir := [.r, .r, .l, .r, .k]
abbrev Ht1 := (List api_Feature) → (List api_Feature) → Int → Int → Option Rt
abbrev Zt := List Dir → St E → Option Rt
abbrev Ut := St E → Option Rt
noncomputable def s3 (M : Nat) (h1 : Ht1) (aa0_0 : (List api_Feature)) (ba1_0 : (List api_Feature)) (x10_1 : Int) (k5_3 : Int) : Option Rt :=
  cond (decide (k5_3 = (ba1_0.length : Int)))
   (some false)
   (cond (decide (0 ≤ k5_3) && decide (k5_3 < (ba1_0.length : Int)))
     (cond (!(decide (((ba1_0.getD k5_3.toNat default).fName) = ((aa0_0.getD x10_1.toNat default).fName)) && (decide (((ba1_0.getD k5_3.toNat default).fValue) = ((aa0_0.getD x10_1.toNat default).fValue)) && true)))
       (some false)
       (h1 aa0_0 ba1_0 (IntKind.i64.wrap (k5_3 + 1)) (IntKind.i64.wrap (x10_1 + 1))))
     none)
noncomputable def j3 (M : Nat) (h1 : Ht1) (aa0_0 : (List api_Feature)) (ba1_0 : (List api_Feature)) (x10_1 : Int) (k5_3 : Int) : Option Rt :=
  s3 M h1 aa0_0 ba1_0 x10_1 k5_3
noncomputable def s2 (M : Nat) (h2 : Ht2) (h3 : Ht3) (aa0_0 : (List api_Feature)) (ba1_0 : (List api_Feature)) (x10_1 : Int) (k5_2 : Int) : Option Rt :=
  cond (decide (k5_2 < (ba1_0.length : Int)))
   (cond (decide (0 ≤ k5_2) && decide (k5_2 < (ba1_0.length : Int)))
     (cond (Op.bytesLess ((ba1_0.getD k5_2.toNat default).fName) ((aa0_0.getD x10_1.toNat default).fName))
       (h2 aa0_0 ba1_0 x10_1 (IntKind.i64.wrap (k5_2 + 1)))
       (h3 aa0_0 ba1_0 x10_1 k5_2))
     none)
   (h3 aa0_0 ba1_0 x10_1 k5_2)
noncomputable def l2 (M : Nat) (h1 : Ht1) : Nat → Ht2
  | 0, _, _, _, _ => none
  | k + 1, aa0_0, ba1_0, x10_1, k5_2 => s2 M (l2 M h1 k) (j3 M h1) aa0_0 ba1_0 x10_1 k5_2
noncomputable def s1 (M : Nat) (h2 : Ht2) (aa0_0 : (List api_Feature)) (ba1_0 : (List api_Feature)) (k5_1 : Int) (x10_1 : Int) : Option Rt :=
  cond (decide (x10_1 < (aa0_0.length : Int)))
   (cond (decide (0 ≤ x10_1) && decide (x10_1 < (aa0_0.length : Int)))
     (h2 aa0_0 ba1_0 x10_1 k5_1)
     none)
   (some true)
noncomputable def l1 (M : Nat) : Nat → Ht1
  | 0, _, _, _, _ => none
  | k + 1, aa0_0, ba1_0, k5_1, x10_1 => s1 M (l2 M (l1 M k) M) aa0_0 ba1_0 k5_1 x10_1
noncomputable def s (M : Nat) (h1 : Ht1) (aa0_0 : (List api_Feature)) (ba1_0 : (List api_Feature)) : Option Rt :=
  h1 aa0_0 ba1_0 0 0
end feature_Subsumes
noncomputable def feature_Subsumes (M : Nat) (aa0_0 : (List api_Feature)) (ba1_0 : (List api_Feature)) : Option Bool :=
  feature_Subsumes.s M (feature_Subsumes.l1 M M) aa0_0 ba1_0
namespace feature_Subsumes
noncomputable def S3 (aa0_0 : (List api_Feature)) (ba1_0 : (List api_Feature)) (x10_1 : Int) (k5_3 : Int) : St E :=
  mkSt 45 45 [(1, .one (.tv (.sl (.st .api_Feature) ba1_0))), (5, .one (.tv (.int .i64 k5_3))), (7, .one (.ptr 7 0)), (8, .one (.tv (.sl (.st .api_Feature) aa0_0))), (9, .one (.tv (.int .i64 (aa0_0.length : Int)))), (10, .one (.tv (.int .i64 x10_1)))] [(7, .cells [.tv (.str ((aa0_0.getD x10_1.toNat default).fName)), .tv (.str ((aa0_0.getD x10_1.toNat default).fValue))])] 0 [] [] false
noncomputable def S2 (aa0_0 : (List api_Feature)) (ba1_0 : (List api_Feature)) (x10_1 : Int) (k5_2 : Int) : St E :=
  mkSt 45 45 [(1, .one (.tv (.sl (.st .api_Feature) ba1_0))), (5, .one (.tv (.int .i64 k5_2))), (7, .one (.ptr 7 0)), (8, .one (.tv (.sl (.st .api_Feature) aa0_0))), (9, .one (.tv (.int .i64 (aa0_0.length : Int)))), (10, .one (.tv (.int .i64 x10_1)))] [(7, .cells [.tv (.str ((aa0_0.getD x10_1.toNat default).fName)), .tv (.str ((aa0_0.getD x10_1.toNat default).fValue))])] 0 [] [] false
noncomputable def S1 (aa0_0 : (List api_Feature)) (ba1_0 : (List api_Feature)) (k5_1 : Int) (x10_1 : Int) : St E :=
  mkSt 45 45 [(1, .one (.tv (.sl (.st .api_Feature) ba1_0))), (5, .one (.tv (.int .i64 k5_1))), (8, .one (.tv (.sl (.st .api_Feature) aa0_0))), (9, .one (.tv (.int .i64 (aa0_0.length : Int)))), (10, .one (.tv (.int .i64 x10_1)))] [] 0 [] [] false
noncomputable def K (M : Nat) : Cont E Bool := kRet (C73 M) Try.f73.results.toList rs ex
noncomputable abbrev zA (M : Nat) (ZL : List Dir → Option (Ut)) (q : List Dir) : Ut := zAt (C73 M) (H M) M 0 ZL body plans (K M) q
noncomputable abbrev lA (M : Nat) (ZL : List Dir → Option (Ut)) (q : List Dir) (k : Nat) : Ut := lpAt (C73 M) (H M) M 0 ZL body plans (K M) q k
noncomputable abbrev gA (M : Nat) (Z : Zt) (q : List Dir) : Ut := seg (C73 M) (H M) 0 Z body plans (K M) q
set_option maxRecDepth 100000
theorem g3 (M : Nat) (Z : Zt) (aa0_0 : (List api_Feature)) (ba1_0 : (List api_Feature)) (x10_1 : Int) (k5_3 : Int) : gA M Z Qt3 (S3 aa0_0 ba1_0 x10_1 k5_3) = s3 M
    (fun aa0_0 ba1_0 k5_1 x10_1 => Z Qt1 (S1 aa0_0 ba1_0 k5_1 x10_1)) aa0_0 ba1_0 x10_1 k5_3 := by kernel_rfl
theorem g2 (M : Nat) (Z : Zt) (aa0_0 : (List api_Feature)) (ba1_0 : (List api_Feature)) (x10_1 : Int) (k5_2 : Int) : gA M Z Qt2 (S2 aa0_0 ba1_0 x10_1 k5_2) = s2 M
    (fun aa0_0 ba1_0 x10_1 k5_2 => Z Qt2 (S2 aa0_0 ba1_0 x10_1 k5_2))
    (fun aa0_0 ba1_0 x10_1 k5_3 => Z Qt3 (S3 aa0_0 ba1_0 x10_1 k5_3)) aa0_0 ba1_0 x10_1 k5_2 := by kernel_rfl
theorem g1 (M : Nat) (Z : Zt) (aa0_0 : (List api_Feature)) (ba1_0 : (List api_Feature)) (k5_1 : Int) (x10_1 : Int) : gA M Z Qt1 (S1 aa0_0 ba1_0 k5_1 x10_1) = s1 M
    (fun aa0_0 ba1_0 x10_1 k5_2 => Z Qt2 (S2 aa0_0 ba1_0 x10_1 k5_2)) aa0_0 ba1_0 k5_1 x10_1 := by kernel_rfl
theorem g (M : Nat) (Z : Zt) (aa0_0 : (List api_Feature)) (ba1_0 : (List api_Feature)) : runZ (C73 M) (extZ (C73 M) (H M) 0) Z body plans (start (argHs ps (aa0_0, ba1_0)) Try.f73.ntmps 45) (K M) = s M
    (fun aa0_0 ba1_0 k5_1 x10_1 => Z Qt1 (S1 aa0_0 ba1_0 k5_1 x10_1)) aa0_0 ba1_0 := by kernel_rfl
theorem e3 (M : Nat) (Z1 : Ut) (h1 : Ht1) (hZ1 : ∀ (aa0_0 : (List api_Feature)) (ba1_0 : (List api_Feature)) (k5_1 : Int) (x10_1 : Int), Z1 (S1 aa0_0 ba1_0 k5_1 x10_1) = h1 aa0_0 ba1_0 k5_1 x10_1) (aa0_0 : (List api_Feature)) (ba1_0 : (List api_Feature)) (x10_1 : Int) (k5_3 : Int) : zA M (zlq Qt3 [Z1]) Qt3 (S3 aa0_0 ba1_0 x10_1 k5_3) = j3 M h1 aa0_0 ba1_0 x10_1 k5_3 := by
  refine (seg_join (Hok M) 0 Qt3 body plans (K M) _ (S3 aa0_0 ba1_0 x10_1 k5_3) (around_zlq _ _ (by kernel_rfl)) (by kernel_rfl)).trans ?_
  refine (g3 M _ aa0_0 ba1_0 x10_1 k5_3).trans ?_
  have x0 := (funext fun aa0_0 => funext fun ba1_0 => funext fun k5_1 => funext fun x10_1 => Eq.trans (b := Z1 (S1 aa0_0 ba1_0 k5_1 x10_1)) (by kernel_rfl) (hZ1 aa0_0 ba1_0 k5_1 x10_1) : (fun aa0_0 ba1_0 k5_1 x10_1 => zA M (zlq Qt3 [Z1]) Qt1 (S1 aa0_0 ba1_0 k5_1 x10_1)) = h1)
  rw [x0]; rfl
theorem el2 (M : Nat) (Z1 : Ut) (h1 : Ht1) (hZ1 : ∀ (aa0_0 : (List api_Feature)) (ba1_0 : (List api_Feature)) (k5_1 : Int) (x10_1 : Int), Z1 (S1 aa0_0 ba1_0 k5_1 x10_1) = h1 aa0_0 ba1_0 k5_1 x10_1) (k : Nat) (aa0_0 : (List api_Feature)) (ba1_0 : (List api_Feature)) (x10_1 : Int) (k5_2 : Int) : lA M (zlq Qt2 [Z1]) Qt2 k (S2 aa0_0 ba1_0 x10_1 k5_2) = l2 M h1 k aa0_0 ba1_0 x10_1 k5_2 := by
  induction k generalizing aa0_0 ba1_0 x10_1 k5_2 with
  | zero => kernel_rfl
  | succ k ih =>
    refine Eq.trans (b := lA M (zlq Qt2 [Z1, lA M (zlq Qt2 [Z1]) Qt2 k]) Qt2 (k + 1) (S2 aa0_0 ba1_0 x10_1 k5_2)) (by kernel_rfl) ?_
    refine (seg_loop (Hok M) 0 Qt2 body plans (K M) _ (S2 aa0_0 ba1_0 x10_1 k5_2) (around_zlq _ _ (by kernel_rfl)) (by kernel_rfl) (by kernel_rfl)).trans ?_
    refine (g2 M _ aa0_0 ba1_0 x10_1 k5_2).trans ?_
    have x0 := (funext fun aa0_0 => funext fun ba1_0 => funext fun x10_1 => funext fun k5_2 => Eq.trans (b := lA M (zlq Qt2 [Z1]) Qt2 k (S2 aa0_0 ba1_0 x10_1 k5_2)) (by kernel_rfl) (ih aa0_0 ba1_0 x10_1 k5_2) : (fun aa0_0 ba1_0 x10_1 k5_2 => zA M (zlq Qt2 [Z1, lA M (zlq Qt2 [Z1]) Qt2 k]) Qt2 (S2 aa0_0 ba1_0 x10_1 k5_2)) = l2 M h1 k)
    have x1 := (funext fun aa0_0 => funext fun ba1_0 => funext fun x10_1 => funext fun k5_3 => Eq.trans (b := zA M (zlq Qt3 [Z1]) Qt3 (S3 aa0_0 ba1_0 x10_1 k5_3)) (by kernel_rfl) (e3 M Z1 h1 hZ1 aa0_0 ba1_0 x10_1 k5_3) : (fun aa0_0 ba1_0 x10_1 k5_3 => zA M (zlq Qt2 [Z1, lA M (zlq Qt2 [Z1]) Qt2 k]) Qt3 (S3 aa0_0 ba1_0 x10_1 k5_3)) = j3 M h1)
    rw [x0, x1]; rfl
theorem e2 (M : Nat) (Z1 : Ut) (h1 : Ht1) (hZ1 : ∀ (aa0_0 : (List api_Feature)) (ba1_0 : (List api_Feature)) (k5_1 : Int) (x10_1 : Int), Z1 (S1 aa0_0 ba1_0 k5_1 x10_1) = h1 aa0_0 ba1_0 k5_1 x10_1) (aa0_0 : (List api_Feature)) (ba1_0 : (List api_Feature)) (x10_1 : Int) (k5_2 : Int) : zA M (zlq Qt2 [Z1]) Qt2 (S2 aa0_0 ba1_0 x10_1 k5_2) = l2 M h1 M aa0_0 ba1_0 x10_1 k5_2 :=
  Eq.trans (b := lA M (zlq Qt2 [Z1]) Qt2 M (S2 aa0_0 ba1_0 x10_1 k5_2)) (by kernel_rfl) (el2 M Z1 h1 hZ1 M aa0_0 ba1_0 x10_1 k5_2)
theorem el1 (M : Nat) (k : Nat) (aa0_0 : (List api_Feature)) (ba1_0 : (List api_Feature)) (k5_1 : Int) (x10_1 : Int) : lA M (zlq Qt1 []) Qt1 k (S1 aa0_0 ba1_0 k5_1 x10_1) = l1 M k aa0_0 ba1_0 k5_1 x10_1 := by
  induction k generalizing aa0_0 ba1_0 k5_1 x10_1 with
  | zero => kernel_rfl
  | succ k ih =>
    refine Eq.trans (b := lA M (zlq Qt1 [lA M (zlq Qt1 []) Qt1 k]) Qt1 (k + 1) (S1 aa0_0 ba1_0 k5_1 x10_1)) (by kernel_rfl) ?_
    refine (seg_loop (Hok M) 0 Qt1 body plans (K M) _ (S1 aa0_0 ba1_0 k5_1 x10_1) (around_zlq _ _ (by kernel_rfl)) (by kernel_rfl) (by kernel_rfl)).trans ?_
    refine (g1 M _ aa0_0 ba1_0 k5_1 x10_1).trans ?_
    have x0 := (funext fun aa0_0 => funext fun ba1_0 => funext fun x10_1 => funext fun k5_2 => Eq.trans (b := zA M (zlq Qt2 [(lA M (zlq Qt1 []) Qt1 k)]) Qt2 (S2 aa0_0 ba1_0 x10_1 k5_2)) (by kernel_rfl) (e2 M (lA M (zlq Qt1 []) Qt1 k) (l1 M k) (fun aa0_0 ba1_0 k5_1 x10_1 => ih aa0_0 ba1_0 k5_1 x10_1) aa0_0 ba1_0 x10_1 k5_2) : (fun aa0_0 ba1_0 x10_1 k5_2 => zA M (zlq Qt1 [lA M (zlq Qt1 []) Qt1 k]) Qt2 (S2 aa0_0 ba1_0 x10_1 k5_2)) = l2 M (l1 M k) M)
    rw [x0]; rfl
theorem e1 (M : Nat) (aa0_0 : (List api_Feature)) (ba1_0 : (List api_Feature)) (k5_1 : Int) (x10_1 : Int) : zA M (zlq Qt1 []) Qt1 (S1 aa0_0 ba1_0 k5_1 x10_1) = l1 M M aa0_0 ba1_0 k5_1 x10_1 :=
  Eq.trans (b := lA M (zlq Qt1 []) Qt1 M (S1 aa0_0 ba1_0 k5_1 x10_1)) (by kernel_rfl) (el1 M M aa0_0 ba1_0 k5_1 x10_1)
theorem run (M : Nat) (aa0_0 : (List api_Feature)) (ba1_0 : (List api_Feature)) : runF (rs := rs) (C73 M) (X M) M body Try.f73.ntmps 45 Try.f73.results.toList plans ps ex (aa0_0, ba1_0) = feature_Subsumes M aa0_0 ba1_0 := by
  refine Eq.trans (b := runC (C73 M) (X M) M body plans (start (argHs ps (aa0_0, ba1_0)) Try.f73.ntmps 45) (K M)) (by kernel_rfl) ?_
  refine (zrun (Hok M) 0 body plans _ (K M) (fun _ => none) fun _ => rfl).symm.trans ?_
  refine (g M _ aa0_0 ba1_0).trans ?_
  have x0 := (funext fun aa0_0 => funext fun ba1_0 => funext fun k5_1 => funext fun x10_1 => Eq.trans (b := zA M (zlq Qt1 []) Qt1 (S1 aa0_0 ba1_0 k5_1 x10_1)) (by kernel_rfl) (e1 M aa0_0 ba1_0 k5_1 x10_1) : (fun aa0_0 ba1_0 k5_1 x10_1 => zA M (fun _ => none) Qt1 (S1 aa0_0 ba1_0 k5_1 x10_1)) = l1 M M)
  rw [x0]; rfl
noncomputable def sig (M : Nat) : Sig E := { ps := ps, rs := rs, ex := ex, fn := fun x => feature_Subsumes M x.1 x.2 }
theorem says (M : Nat) : callable Try.prog 73 = true ∧ ∀ x y, (sig M).fn x = some y → Says Try.prog 73 (sig M) x y := by
  refine ⟨by kernel_rfl, fun x y h => ?_⟩
  refine says_of_run (S := sig M) (C := C73 M) (X := X M) (M := M) (q := 45) (plans := plans) (COk_Try) (SigOk_C73 M) (ItOk_C73 M) (by kernel_rfl) (callOk_ext COk_Try (SigOk_C73 M) (ItOk_C73 M) (by kernel_rfl) inl_ok.ok (RSigOk_C73 M) (fun _ => callOk_none) M 1) (Try.func73) (body := body) (by kernel_rfl) (by kernel_rfl) ?_
  obtain ⟨aa0_0, ba1_0⟩ := x
  exact (run M aa0_0 ba1_0).trans h
end feature_Subsumes
end Go.Ai.Par
end
set_option linter.unusedVariables false
set_option linter.unusedSectionVars false
noncomputable section
namespace Go.Ai.Par
open Go Go.Ai Go.Proofs
noncomputable def sigs64 (M : Nat) : List (Nat × Sig E) := [(61, pentaglotref02_Index.sig M)]
noncomputable def rs64 (M : Nat) : List (Nat × Sig E) := []
noncomputable def its64 (M : Nat) : List (Nat × It E) := []
theorem sigs_ok64 (M : Nat) : SigsOk Try.prog (sigs64 M) := SigsOk.cons (pentaglotref02_Index.says M) (SigsOk.nil)
theorem rs_ok64 (M : Nat) : SigsOk Try.prog (rs64 M) := SigsOk.nil
theorem its_ok64 (M : Nat) : ItsOk Try.prog (its64 M) := ItsOk.nil
noncomputable def C64 (M : Nat) : Ctx E := { ti := fun t => tisE.lookup t, sig := fun f => (sigs64 M).lookup f, it := fun f => (its64 M).lookup f, nt := 22 }
theorem SigOk_C64 (M : Nat) : SigOk Try.prog (C64 M) := sigs_ok64 M
theorem RSigOk_C64 (M : Nat) : SigOk Try.prog ({ ti := fun _ => none, sig := fun f => (rs64 M).lookup f } : Ctx E) := rs_ok64 M
theorem ItOk_C64 (M : Nat) : ItOk Try.prog (C64 M) := (its_ok64 M).ok
namespace pentaglotref02_Has
noncomputable def plans : List (Option (Plan Nm)) := [none, none, none]
noncomputable abbrev body : Code := bodyOf Try.f64
def ps : List (Ty Nm) := [(.sl (.st .api_Feature)), (.st .api_Feature)]
def rs : List (Ty Nm) := [.bool]
def ex : List (Option Nat) := [none]
noncomputable def inl : List (Nat × Nat × Nat × Inl Nm) := []
theorem inl_ok : InlsOk Try.prog inl := InlsOk.nil
noncomputable def X (M : Nat) : Ext E Bool := extOf (C64 M) (inlOf inl) (fun f => (rs64 M).lookup f) (fun _ _ _ => none) noX M 1
abbrev Rt := Bool
noncomputable def H (M : Nat) : Hd E Rt := hd0 (X M)
theorem Hok (M : Nat) : (H M).ok (C64 M) M := hd0_ok _
abbrev Zt := List Dir → St E → Option Rt
abbrev Ut := St E → Option Rt
noncomputable def s (M : Nat) (ra0_0 : (List api_Feature)) (fa1_0 : api_Feature) : Option Rt :=
  Option.bind (pentaglotref02_Index M ra0_0 fa1_0.fName) fun r9_1 =>
  cond (decide (0 ≤ r9_1))
   (cond (decide (0 ≤ r9_1) && decide (r9_1 < (ra0_0.length : Int)))
     (some (decide (((ra0_0.getD r9_1.toNat default).fValue) = fa1_0.fValue)))
     none)
   (some false)
end pentaglotref02_Has
noncomputable def pentaglotref02_Has (M : Nat) (ra0_0 : (List api_Feature)) (fa1_0 : api_Feature) : Option Bool :=
  pentaglotref02_Has.s M ra0_0 fa1_0
namespace pentaglotref02_Has
noncomputable def K (M : Nat) : Cont E Bool := kRet (C64 M) Try.f64.results.toList rs ex
set_option maxRecDepth 100000
theorem g (M : Nat) (Z : Zt) (ra0_0 : (List api_Feature)) (fa1_0 : api_Feature) : runZ (C64 M) (extZ (C64 M) (H M) 0) Z body plans (start (argHs ps (ra0_0, fa1_0)) Try.f64.ntmps 22) (K M) = s M ra0_0 fa1_0 := by kernel_rfl
theorem run (M : Nat) (ra0_0 : (List api_Feature)) (fa1_0 : api_Feature) : runF (rs := rs) (C64 M) (X M) M body Try.f64.ntmps 22 Try.f64.results.toList plans ps ex (ra0_0, fa1_0) = pentaglotref02_Has M ra0_0 fa1_0 := by
  refine Eq.trans (b := runC (C64 M) (X M) M body plans (start (argHs ps (ra0_0, fa1_0)) Try.f64.ntmps 22) (K M)) (by kernel_rfl) ?_
  refine (zrun (Hok M) 0 body plans _ (K M) (fun _ => none) fun _ => rfl).symm.trans ?_
  refine (g M _ ra0_0 fa1_0).trans ?_
  rfl
noncomputable def sig (M : Nat) : Sig E := { ps := ps, rs := rs, ex := ex, fn := fun x => pentaglotref02_Has M x.1 x.2 }
theorem says (M : Nat) : callable Try.prog 64 = true ∧ ∀ x y, (sig M).fn x = some y → Says Try.prog 64 (sig M) x y := by
  refine ⟨by kernel_rfl, fun x y h => ?_⟩
  refine says_of_run (S := sig M) (C := C64 M) (X := X M) (M := M) (q := 22) (plans := plans) (COk_Try) (SigOk_C64 M) (ItOk_C64 M) (by kernel_rfl) (callOk_ext COk_Try (SigOk_C64 M) (ItOk_C64 M) (by kernel_rfl) inl_ok.ok (RSigOk_C64 M) (fun _ => callOk_none) M 1) (Try.func64) (body := body) (by kernel_rfl) (by kernel_rfl) ?_
  obtain ⟨ra0_0, fa1_0⟩ := x
  exact (run M ra0_0 fa1_0).trans h
end pentaglotref02_Has
end Go.Ai.Par
end
set_option linter.unusedVariables false
set_option linter.unusedSectionVars false
noncomputable section
namespace Go.Ai.Par
open Go Go.Ai Go.Proofs
noncomputable def sigs45 (M : Nat) : List (Nat × Sig E) := [(64, pentaglotref02_Has.sig M)]
noncomputable def rs45 (M : Nat) : List (Nat × Sig E) := []
noncomputable def its45 (M : Nat) : List (Nat × It E) := []
theorem sigs_ok45 (M : Nat) : SigsOk Try.prog (sigs45 M) := SigsOk.cons (pentaglotref02_Has.says M) (SigsOk.nil)
theorem rs_ok45 (M : Nat) : SigsOk Try.prog (rs45 M) := SigsOk.nil
theorem its_ok45 (M : Nat) : ItsOk Try.prog (its45 M) := ItsOk.nil
noncomputable def C45 (M : Nat) : Ctx E := { ti := fun t => tisE.lookup t, sig := fun f => (sigs45 M).lookup f, it := fun f => (its45 M).lookup f, nt := 19 }
theorem SigOk_C45 (M : Nat) : SigOk Try.prog (C45 M) := sigs_ok45 M
theorem RSigOk_C45 (M : Nat) : SigOk Try.prog ({ ti := fun _ => none, sig := fun f => (rs45 M).lookup f } : Ctx E) := rs_ok45 M
theorem ItOk_C45 (M : Nat) : ItOk Try.prog (C45 M) := (its_ok45 M).ok
namespace pentaglotref02_Subsumes
noncomputable def plans : List (Option (Plan Nm)) := [none, none, some { tmps := [(0, .asis), (1, .asis), (5, .asis)], boxes := [] }, none, none, none, none, none, none, none]
noncomputable abbrev body : Code := bodyOf Try.f45
def ps : List (Ty Nm) := [(.sl (.st .api_Feature)), (.sl (.st .api_Feature))]
def rs : List (Ty Nm) := [.bool]
def ex : List (Option Nat) := [none]
noncomputable def inl : List (Nat × Nat × Nat × Inl Nm) := []
theorem inl_ok : InlsOk Try.prog inl := InlsOk.nil
noncomputable def X (M : Nat) : Ext E Bool := extOf (C45 M) (inlOf inl) (fun f => (rs45 M).lookup f) (fun _ _ _ => none) noX M 1
abbrev Rt := Bool
noncomputable def H (M : Nat) : Hd E Rt := hd0 (X M)
theorem Hok (M : Nat) : (H M).ok (C45 M) M := hd0_ok _
abbrev Qt1 : List Dir := [.r, .l, .r, .k]
abbrev Ht1 := (List api_Feature) → (List api_Feature) → Int → Option Rt
abbrev Zt := List Dir → St E → Option Rt
abbrev Ut := St E → Option Rt
noncomputable def s1 (M : Nat) (h1 : Ht1) (aa0_0 : (List api_Feature)) (ba1_0 : (List api_Feature)) (i5_1 : Int) : Option Rt :=
  cond (decide (i5_1 < (aa0_0.length : Int)))
   (cond (decide (0 ≤ i5_1) && decide (i5_1 < (aa0_0.length : Int)))
     (Option.bind (pentaglotref02_Has M ba1_0 (aa0_0.getD i5_1.toNat default)) fun r17_4 =>
      cond (!r17_4)
       (some false)
       (h1 aa0_0 ba1_0 (IntKind.i64.wrap (i5_1 + 1))))
     none)
   (some true)
noncomputable def l1 (M : Nat) : Nat → Ht1
  | 0, _, _, _ => none
  | k + 1, aa0_0, ba1_0, i5_1 => s1 M (l1 M k) aa0_0 ba1_0 i5_1
noncomputable def s (M : Nat) (h1 : Ht1) (aa0_0 : (List api_Feature)) (ba1_0 : (List api_Feature)) : Option Rt :=
  h1 aa0_0 ba1_0 0
end pentaglotref02_Subsumes
noncomputable def pentaglotref02_Subsumes (M : Nat) (aa0_0 : (List api_Feature)) (ba1_0 : (List api_Feature)) : Option Bool :=
  pentaglotref02_Subsumes.s M (pentaglotref02_Subsumes.l1 M M) aa0_0 ba1_0
namespace pentaglotref02_Subsumes
noncomputable def S1 (aa0_0 : (List api_Feature)) (ba1_0 : (List api_Feature)) (i5_1 : Int) : St E :=
  mkSt 19 19 [(0, .one (.tv (.sl (.st .api_Feature) aa0_0))), (1, .one (.tv (.sl (.st .api_Feature) ba1_0))), (5, .one (.tv (.int .i64 i5_1)))] [] 0 [] [] false
noncomputable def K (M : Nat) : Cont E Bool := kRet (C45 M) Try.f45.results.toList rs ex
noncomputable abbrev zA (M : Nat) (ZL : List Dir → Option (Ut)) (q : List Dir) : Ut := zAt (C45 M) (H M) M 0 ZL body plans (K M) q
noncomputable abbrev lA (M : Nat) (ZL : List Dir → Option (Ut)) (q : List Dir) (k : Nat) : Ut := lpAt (C45 M) (H M) M 0 ZL body plans (K M) q k
noncomputable abbrev gA (M : Nat) (Z : Zt) (q : List Dir) : Ut := seg (C45 M) (H M) 0 Z body plans (K M) q
set_option maxRecDepth 100000
theorem g1 (M : Nat) (Z : Zt) (aa0_0 : (List api_Feature)) (ba1_0 : (List api_Feature)) (i5_1 : Int) : gA M Z Qt1 (S1 aa0_0 ba1_0 i5_1) = s1 M
    (fun aa0_0 ba1_0 i5_1 => Z Qt1 (S1 aa0_0 ba1_0 i5_1)) aa0_0 ba1_0 i5_1 := by kernel_rfl
theorem g (M : Nat) (Z : Zt) (aa0_0 : (List api_Feature)) (ba1_0 : (List api_Feature)) : runZ (C45 M) (extZ (C45 M) (H M) 0) Z body plans (start (argHs ps (aa0_0, ba1_0)) Try.f45.ntmps 19) (K M) = s M
    (fun aa0_0 ba1_0 i5_1 => Z Qt1 (S1 aa0_0 ba1_0 i5_1)) aa0_0 ba1_0 := by kernel_rfl
theorem el1 (M : Nat) (k : Nat) (aa0_0 : (List api_Feature)) (ba1_0 : (List api_Feature)) (i5_1 : Int) : lA M (zlq Qt1 []) Qt1 k (S1 aa0_0 ba1_0 i5_1) = l1 M k aa0_0 ba1_0 i5_1 := by
  induction k generalizing aa0_0 ba1_0 i5_1 with
  | zero => kernel_rfl
  | succ k ih =>
    refine Eq.trans (b := lA M (zlq Qt1 [lA M (zlq Qt1 []) Qt1 k]) Qt1 (k + 1) (S1 aa0_0 ba1_0 i5_1)) (by kernel_rfl) ?_
    refine (seg_loop (Hok M) 0 Qt1 body plans (K M) _ (S1 aa0_0 ba1_0 i5_1) (around_zlq _ _ (by kernel_rfl)) (by kernel_rfl) (by kernel_rfl)).trans ?_
    refine (g1 M _ aa0_0 ba1_0 i5_1).trans ?_
    have x0 := (funext fun aa0_0 => funext fun ba1_0 => funext fun i5_1 => Eq.trans (b := lA M (zlq Qt1 []) Qt1 k (S1 aa0_0 ba1_0 i5_1)) (by kernel_rfl) (ih aa0_0 ba1_0 i5_1) : (fun aa0_0 ba1_0 i5_1 => zA M (zlq Qt1 [lA M (zlq Qt1 []) Qt1 k]) Qt1 (S1 aa0_0 ba1_0 i5_1)) = l1 M k)
    rw [x0]; rfl
theorem e1 (M : Nat) (aa0_0 : (List api_Feature)) (ba1_0 : (List api_Feature)) (i5_1 : Int) : zA M (zlq Qt1 []) Qt1 (S1 aa0_0 ba1_0 i5_1) = l1 M M aa0_0 ba1_0 i5_1 :=
  Eq.trans (b := lA M (zlq Qt1 []) Qt1 M (S1 aa0_0 ba1_0 i5_1)) (by kernel_rfl) (el1 M M aa0_0 ba1_0 i5_1)
theorem run (M : Nat) (aa0_0 : (List api_Feature)) (ba1_0 : (List api_Feature)) : runF (rs := rs) (C45 M) (X M) M body Try.f45.ntmps 19 Try.f45.results.toList plans ps ex (aa0_0, ba1_0) = pentaglotref02_Subsumes M aa0_0 ba1_0 := by
  refine Eq.trans (b := runC (C45 M) (X M) M body plans (start (argHs ps (aa0_0, ba1_0)) Try.f45.ntmps 19) (K M)) (by kernel_rfl) ?_
  refine (zrun (Hok M) 0 body plans _ (K M) (fun _ => none) fun _ => rfl).symm.trans ?_
  refine (g M _ aa0_0 ba1_0).trans ?_
  have x0 := (funext fun aa0_0 => funext fun ba1_0 => funext fun i5_1 => Eq.trans (b := zA M (zlq Qt1 []) Qt1 (S1 aa0_0 ba1_0 i5_1)) (by kernel_rfl) (e1 M aa0_0 ba1_0 i5_1) : (fun aa0_0 ba1_0 i5_1 => zA M (fun _ => none) Qt1 (S1 aa0_0 ba1_0 i5_1)) = l1 M M)
  rw [x0]; rfl
noncomputable def sig (M : Nat) : Sig E := { ps := ps, rs := rs, ex := ex, fn := fun x => pentaglotref02_Subsumes M x.1 x.2 }
theorem says (M : Nat) : callable Try.prog 45 = true ∧ ∀ x y, (sig M).fn x = some y → Says Try.prog 45 (sig M) x y := by
  refine ⟨by kernel_rfl, fun x y h => ?_⟩
  refine says_of_run (S := sig M) (C := C45 M) (X := X M) (M := M) (q := 19) (plans := plans) (COk_Try) (SigOk_C45 M) (ItOk_C45 M) (by kernel_rfl) (callOk_ext COk_Try (SigOk_C45 M) (ItOk_C45 M) (by kernel_rfl) inl_ok.ok (RSigOk_C45 M) (fun _ => callOk_none) M 1) (Try.func45) (body := body) (by kernel_rfl) (by kernel_rfl) ?_
  obtain ⟨aa0_0, ba1_0⟩ := x
  exact (run M aa0_0 ba1_0).trans h
end pentaglotref02_Subsumes
end Go.Ai.Par
end
namespace Go.Ai.Par
open Go Go.Ai
variable {M : Nat}

def okF (f : api_Feature) : Prop := f.fName.length ≤ 1048576 ∧ f.fValue.length ≤ 1048576
def okR (r : List api_Feature) : Prop := r.length ≤ 1048576 ∧ ∀ f ∈ r, okF f
def goodF (f : api_Feature) : Bool := isName f.fName && isName f.fValue
def isValid (r : List api_Feature) : Bool := r.all goodF && isRec r && decide (r.length ≤ 8)
def prevAt (r : List api_Feature) (i : Nat) : Option api_Feature := match i with
  | 0 => none
  | i + 1 => some (r.getD i default)

theorem getD_mem {α : Type} [Inhabited α] {xs : List α} {i : Nat} (h : i < xs.length) : xs.getD i default ∈ xs := by
  simp [h]

theorem feature_Valid_eq (hM : 1048576 < M) {r : List api_Feature} (hr : okR r) : feature_Valid M r = some (isValid r) := by
  obtain ⟨hl, hf⟩ := hr
  have key := overI (xs := r) (f := fun k i (_ : Unit) => feature_Valid.l1 M k r i) (g := fun i t _ => some (t.all goodF && asc (prevAt r i) t && decide (r.length ≤ 8))) (fun k _ => by
    simp only [feature_Valid.l1, feature_Valid.s1, feature_Valid.j3, feature_Valid.s3, ↓cneg (Int.lt_irrefl _), List.all_nil, asc, Bool.true_and]
    congr 1
    rw [Bool.eq_iff_iff]; simp; omega) (fun k i x t _ hi hx _ ht ih => by
    have ih := ih ()
    obtain ⟨n1, n2⟩ := hf _ (getD_mem hi)
    rw [hx] at n1 n2
    simp (disch := omega) only [feature_Valid.l1, feature_Valid.s1, feature_Valid.j2, feature_Valid.s2, ↓cpos, ↓cpos2, Int.toNat_natCast, hx, wsucc, ih, feature_name_eq hM, Option.bind_some, List.all_cons, goodF, cnot, cond_true, cond_false]
    cases i with
    | zero =>
      have : (0 : Int) < ((0 : Nat) : Int) ↔ False := by simp
      simp only [prevAt, asc, this, decide_false, cond_false, hx]
      cases isName x.fName <;> cases isName x.fValue <;> simp
    | succ i =>
      have w : IntKind.i64.wrap (((i + 1 : Nat) : Int) - 1) = (i : Int) := by rw [wrap64] <;> omega
      simp (disch := omega) only [w, ↓cpos, ↓cpos2, prevAt, asc, Int.toNat_natCast, hx]
      cases isName x.fName <;> cases isName x.fValue <;> cases Op.bytesLess (r.getD i default).fName x.fName <;> simp) (k := M) (by omega) ()
  exact key

theorem ref02_Valid_eq (hM : 1048576 < M) {r : List api_Feature} (hr : okR r) : pentaglotref02_Valid M r = some (isValid r) := by
  obtain ⟨hl, hf⟩ := hr
  have key := over (xs := r) (f := fun k i (_ : Unit) => pentaglotref02_Valid.l1 M k r i) (g := fun t _ => some (t.all goodF && (isRec r && decide (r.length ≤ 8)))) (fun k _ => by
    simp only [pentaglotref02_Valid.l1, pentaglotref02_Valid.s1, pentaglotref02_Valid.j2, pentaglotref02_Valid.s2, ↓cneg (Int.lt_irrefl _), List.all_nil, Bool.true_and, ref02_Record_eq hM hl, Option.bind_some]
    by_cases h : r.length ≤ 8
    · rw [cpos (by omega)]; simp [h]
    · rw [cneg (by omega)]; simp [h]) (fun k i x t _ hi hx ih => by
    have ih := ih ()
    obtain ⟨n1, n2⟩ := hf _ (getD_mem hi)
    rw [hx] at n1 n2
    simp (disch := omega) only [pentaglotref02_Valid.l1, pentaglotref02_Valid.s1, ↓cpos, ↓cpos2, Int.toNat_natCast, hx, wsucc, ih, ref02_Name_eq hM, Option.bind_some, List.all_cons, goodF, cnot]
    cases isName x.fName <;> cases isName x.fValue <;> simp) (k := M) (by omega) ()
  unfold isValid
  rw [Bool.and_assoc]
  exact key

def ltB (x y : api_Feature) : Bool := Op.bytesLess x.fName y.fName

/-- A feature is put into a record. -/
def put : List api_Feature → api_Feature → List api_Feature
  | [], f => [f]
  | e :: r, f => cond (ltB e f) (e :: put r f) (f :: e :: r)

theorem put_length (f : api_Feature) : ∀ r : List api_Feature, (put r f).length = r.length + 1
  | [] => rfl
  | e :: r => by simp only [put]; cases ltB e f <;> simp [put_length f r]

theorem put_mem {f x : api_Feature} : ∀ {r : List api_Feature}, x ∈ put r f ↔ x = f ∨ x ∈ r
  | [] => by simp [put]
  | e :: r => by
    simp only [put]
    cases ltB e f with
    | true =>
      simp only [cond_true, List.mem_cons, put_mem (r := r)]
      constructor <;> intro h <;> rcases h with h | h | h <;> simp [h]
    | false => simp

theorem ref02_Put_eq (hM : 1048576 < M) {r : List api_Feature} (hl : r.length ≤ 1048576) (f : api_Feature) : pentaglotref02_Put M r f = some (put r f) := by
  have key := overJ (xs := r) (f := fun k i (s : List api_Feature) => pentaglotref02_Put.l1 M k f r s i) (g := fun i t s => some (s ++ put t f)) (I := fun i s => s.length = i) (fun k s hs => by
    simp (disch := first | omega | (simp only [len, len0]; omega)) only [pentaglotref02_Put.l1, pentaglotref02_Put.s1, pentaglotref02_Put.j2, pentaglotref02_Put.s2, ↓cneg (Int.lt_irrefl _), ↓cpos, ↓cpos2, Int.toNat_natCast, List.drop_length, put, List.append_nil]) (fun k i x t s hi hs hx hd ht ih => by
    simp (disch := first | omega | (simp only [len, len0]; omega)) only [pentaglotref02_Put.l1, pentaglotref02_Put.s1, pentaglotref02_Put.j2, pentaglotref02_Put.s2, ↓cpos, ↓cpos2, Int.toNat_natCast, hx, hd, put, ltB, wsucc, ih]
    cases Op.bytesLess x.fName f.fName <;> simp) (k := M) (by omega) (s := []) rfl
  exact key

/-! ### Two records in one -/
def unify : Nat → List api_Feature → List api_Feature → Option (List api_Feature)
  | 0, _, _ => none
  | n + 1, [], b => some b
  | n + 1, x :: a, [] => some (x :: a)
  | n + 1, x :: a, y :: b => cond (ltB x y) ((unify n a (y :: b)).map (x :: ·)) (cond (ltB y x) ((unify n (x :: a) b).map (y :: ·)) (cond (decide (x.fValue = y.fValue)) ((unify n a b).map (x :: ·)) none))

def pairOf (o : Option (List api_Feature)) : List api_Feature × Bool := (o.getD [], o.isSome)

def Asc (r : List api_Feature) : Prop := r.Pairwise fun x y => ltB x y = true

theorem asc_some : ∀ {r : List api_Feature} {e : api_Feature}, asc (some e) r = true → (∀ f ∈ r, ltB e f = true) ∧ Asc r
  | [], e, _ => ⟨fun f h => (by cases h), List.Pairwise.nil⟩
  | g :: r, e, h => by
    simp only [asc, Bool.and_eq_true] at h
    obtain ⟨h1, h2⟩ := asc_some (r := r) h.2
    refine ⟨fun f hf => ?_, List.pairwise_cons.2 ⟨h1, h2⟩⟩
    rcases List.mem_cons.1 hf with rfl | hf
    · exact h.1
    · exact bl_trans h.1 (h1 f hf)

theorem asc_of : ∀ {r : List api_Feature} {e : api_Feature}, (∀ f ∈ r, ltB e f = true) → Asc r → asc (some e) r = true
  | [], e, _, _ => rfl
  | g :: r, e, h, ha => by
    obtain ⟨h1, h2⟩ := List.pairwise_cons.1 ha
    simp only [asc, Bool.and_eq_true]
    exact ⟨h g (by simp), asc_of h1 h2⟩

theorem isRec_iff {r : List api_Feature} : isRec r = true ↔ Asc r := by
  unfold isRec
  cases r with
  | nil => exact ⟨fun _ => List.Pairwise.nil, fun _ => rfl⟩
  | cons f r =>
    simp only [asc]
    exact ⟨fun h => List.pairwise_cons.2 (asc_some h), fun h => asc_of (List.pairwise_cons.1 h).1 (List.pairwise_cons.1 h).2⟩

theorem put_head {x f : api_Feature} (r : List api_Feature) (h : ltB x f = true) : put (x :: r) f = x :: put r f := by
  simp only [put, h, cond_true]

theorem put_front {x f : api_Feature} (r : List api_Feature) (h : ltB f x = true) : put (x :: r) f = f :: x :: r := by
  have : ltB x f = false := bl_asymm h
  simp only [put, this, cond_false]

/-- What the reference does with the second record. -/
def foldU (g : List UInt8 → Bool) (b out : List api_Feature) : List api_Feature := b.foldl (fun o f => cond (g f.fName) o (put o f)) out

theorem foldU_cons {g : List UInt8 → Bool} {x : api_Feature} : ∀ {b out : List api_Feature}, (∀ f ∈ b, ltB x f = true) → foldU g b (x :: out) = x :: foldU g b out
  | [], out, _ => rfl
  | f :: b, out, h => by
    have hf := h f (by simp)
    simp only [foldU, List.foldl_cons]
    cases g f.fName with
    | true => exact foldU_cons fun f hf => h f (List.mem_cons_of_mem _ hf)
    | false =>
      simp only [cond_false]
      rw [put_head _ hf]; exact foldU_cons fun f hf => h f (List.mem_cons_of_mem _ hf)

theorem foldU_congr {g g' : List UInt8 → Bool} : ∀ {b out : List api_Feature}, (∀ f ∈ b, g f.fName = g' f.fName) → foldU g b out = foldU g' b out
  | [], out, _ => rfl
  | f :: b, out, h => by
    simp only [foldU, List.foldl_cons]
    rw [h f (by simp)]
    exact foldU_congr fun f hf => h f (List.mem_cons_of_mem _ hf)

theorem foldU_end {g : List UInt8 → Bool} : ∀ {b : List api_Feature}, Asc b → (∀ f ∈ b, g f.fName = false) → foldU g b [] = b
  | [], _, _ => rfl
  | f :: b, ha, h => by
    obtain ⟨h1, h2⟩ := List.pairwise_cons.1 ha
    simp only [foldU, List.foldl_cons]
    rw [h f (by simp), cond_false]
    simp only [put]
    exact (foldU_cons h1).trans (by rw [foldU_end h2 fun f hf => h f (List.mem_cons_of_mem _ hf)])

def agreeF (a : List api_Feature) (f : api_Feature) : Bool := match getF a f.fName with
  | some v => decide (v = f.fValue)
  | none => true

def refU (a b : List api_Feature) : Option (List api_Feature) := cond (b.all (agreeF a)) (some (foldU (fun n => (getF a n).isSome) b a)) none

theorem getF_skip {x : api_Feature} {a : List api_Feature} {n : List UInt8} (h : Op.bytesLess x.fName n = true) : getF (x :: a) n = getF a n := by
  simp only [getF]; rw [if_neg (bl_ne h)]

theorem getF_none {a : List api_Feature} {n : List UInt8} (h : ∀ f ∈ a, Op.bytesLess n f.fName = true) : getF a n = none := by
  induction a with
  | nil => rfl
  | cons x a ih =>
    simp only [getF]
    rw [if_neg (bl_ne (h x (by simp))).symm, ih fun f hf => h f (List.mem_cons_of_mem _ hf)]

theorem all_congr {p q : api_Feature → Bool} {b : List api_Feature} (h : ∀ f ∈ b, p f = q f) : b.all p = b.all q := by
  induction b with
  | nil => rfl
  | cons f b ih => simp only [List.all_cons, h f (by simp), ih fun f hf => h f (List.mem_cons_of_mem _ hf)]

theorem unify_ref : ∀ (n : Nat) (a b : List api_Feature), Asc a → Asc b → a.length + b.length < n → unify n a b = refU a b
  | 0, _, _, _, _, h => by omega
  | n + 1, [], b, _, hb, _ => by
    have e : b.all (agreeF []) = true := by simp [agreeF, getF]
    simp only [unify, refU, e, cond_true]
    rw [foldU_end hb (fun f _ => by simp [getF])]
  | n + 1, x :: a, [], _, _, _ => by simp [unify, refU, foldU]
  | n + 1, x :: a, y :: b, ha, hb, hn => by
    obtain ⟨ha1, ha2⟩ := List.pairwise_cons.1 ha
    obtain ⟨hb1, hb2⟩ := List.pairwise_cons.1 hb
    simp only [List.length_cons] at hn
    simp only [unify]
    cases h : ltB x y with
    | true =>
      have hall : ∀ f ∈ y :: b, ltB x f = true := fun f hf => by
        rcases List.mem_cons.1 hf with rfl | hf
        · exact h
        · exact bl_trans h (hb1 f hf)
      rw [cond_true, unify_ref n a (y :: b) ha2 hb (by simp only [List.length_cons]; omega)]
      unfold refU
      rw [all_congr (p := agreeF (x :: a)) (q := agreeF a) fun f hf => by unfold agreeF; rw [getF_skip (hall f hf)]]
      rw [foldU_cons hall, foldU_congr (g := fun n => (getF (x :: a) n).isSome) (g' := fun n => (getF a n).isSome) fun f hf => by rw [getF_skip (hall f hf)]]
      cases (y :: b).all (agreeF a) <;> rfl
    | false =>
      rw [cond_false]
      cases h' : ltB y x with
      | true =>
        have hall : ∀ f ∈ x :: a, Op.bytesLess y.fName f.fName = true := fun f hf => by
          rcases List.mem_cons.1 hf with rfl | hf
          · exact h'
          · exact bl_trans h' (ha1 f hf)
        rw [cond_true, unify_ref n (x :: a) b ha hb2 (by simp only [List.length_cons]; omega)]
        have e : getF (x :: a) y.fName = none := getF_none hall
        have e1 : agreeF (x :: a) y = true := by unfold agreeF; rw [e]
        have e2 : foldU (fun n => (getF (x :: a) n).isSome) (y :: b) (x :: a) = foldU (fun n => (getF (x :: a) n).isSome) b (y :: x :: a) := by
          simp only [foldU, List.foldl_cons, e, Option.isSome_none, cond_false]
          rw [put_front _ h']
        unfold refU
        rw [e2, foldU_cons hb1, List.all_cons, e1, Bool.true_and]
        cases b.all (agreeF (x :: a)) <;> rfl
      | false =>
        rw [cond_false]
        have hxy : x.fName = y.fName := bl_tri h h'
        have hall : ∀ f ∈ b, ltB x f = true := fun f hf => by unfold ltB; rw [hxy]; exact hb1 f hf
        have e : getF (x :: a) y.fName = some x.fValue := by simp [getF, hxy]
        have e1 : agreeF (x :: a) y = decide (x.fValue = y.fValue) := by unfold agreeF; rw [e]
        have e2 : foldU (fun n => (getF (x :: a) n).isSome) (y :: b) (x :: a) = foldU (fun n => (getF (x :: a) n).isSome) b (x :: a) := by
          simp only [foldU, List.foldl_cons, e, Option.isSome_some, cond_true]
        rw [unify_ref n a b ha2 hb2 (by omega)]
        unfold refU
        rw [e2, foldU_cons hall, List.all_cons, e1, all_congr (p := agreeF (x :: a)) (q := agreeF a) (b := b) fun f hf => by unfold agreeF; rw [getF_skip (hall f hf)]]
        rw [foldU_congr (g := fun n => (getF (x :: a) n).isSome) (g' := fun n => (getF a n).isSome) fun f hf => by rw [getF_skip (hall f hf)]]
        cases decide (x.fValue = y.fValue) <;> cases b.all (agreeF a) <;> rfl

theorem getF_fst (r : List api_Feature) (n : List UInt8) : (getF r n = none ∧ fstIdx (fun x : api_Feature => decide (x.fName = n)) r 0 = -1) ∨ ∃ j : Nat, j < r.length ∧ fstIdx (fun x : api_Feature => decide (x.fName = n)) r 0 = (j : Int) ∧ getF r n = some (r.getD j default).fValue := by
  have key : ∀ (r : List api_Feature) (i : Nat), (getF r n = none ∧ fstIdx (fun x : api_Feature => decide (x.fName = n)) r i = -1) ∨ ∃ j : Nat, j < r.length ∧ fstIdx (fun x : api_Feature => decide (x.fName = n)) r i = ((i + j : Nat) : Int) ∧ getF r n = some (r.getD j default).fValue := by
    intro r
    induction r with
    | nil => intro i; exact .inl ⟨rfl, rfl⟩
    | cons x r ih =>
      intro i
      simp only [fstIdx, getF]
      by_cases h : x.fName = n
      · rw [if_pos h]; exact .inr ⟨0, by simp, by simp [h], by simp⟩
      · rw [if_neg h]
        simp only [h, decide_false, cond_false]
        rcases ih (i + 1) with ⟨h1, h2⟩ | ⟨j, h1, h2, h3⟩
        · exact .inl ⟨h1, h2⟩
        · exact .inr ⟨j + 1, by simp only [List.length_cons]; omega, by rw [h2]; omega, by rw [h3]; simp⟩
  simpa using key r 0

theorem ref02_Unify_eq (hM : 1048576 < M) {a b : List api_Feature} (hl : a.length + b.length ≤ 1048576) : pentaglotref02_Unify M a b = some (pairOf (refU a b)) := by
  unfold pentaglotref02_Unify pentaglotref02_Unify.s
  rw [cpos (by simp only [len, len0]; omega)]
  have key := overJ (xs := b) (f := fun k i (s : List api_Feature) => pentaglotref02_Unify.l1 M k a b s i) (g := fun _ t s => some (pairOf (cond (t.all (agreeF a)) (some (foldU (fun n => (getF a n).isSome) t s)) none))) (I := fun i s => s.length ≤ a.length + i) (fun k s hs => by
    simp only [pentaglotref02_Unify.l1, pentaglotref02_Unify.s1, ↓cneg (Int.lt_irrefl _)]
    rfl) (fun k i x t s hi hs hx hd ht ih => by
    simp (disch := first | omega | (simp only [len, len0]; omega)) only [pentaglotref02_Unify.l1, pentaglotref02_Unify.s1, pentaglotref02_Unify.j2, pentaglotref02_Unify.s2, ↓cpos, ↓cpos2, Int.toNat_natCast, hx, wsucc, ref02_Index_eq hM (show a.length ≤ 1048576 by omega), Option.bind_some, cnot]
    rcases getF_fst a x.fName with ⟨h1, h2⟩ | ⟨j, h1, h2, h3⟩
    · have e1 : agreeF a x = true := by unfold agreeF; rw [h1]
      rw [h2]
      simp (disch := first | omega | (simp only [len, len0]; omega)) only [↓cpos, ↓cpos2, ↓cneg, ref02_Put_eq hM (show s.length ≤ 1048576 by omega), Option.bind_some]
      rw [ih _ (by rw [put_length]; omega)]
      simp only [List.all_cons, e1, Bool.true_and, foldU, List.foldl_cons, h1]
      rfl
    · have e1 : agreeF a x = decide ((a.getD j default).fValue = x.fValue) := by unfold agreeF; rw [h3]
      rw [h2]
      simp (disch := first | omega | (simp only [len, len0]; omega)) only [↓cpos, ↓cpos2, ↓cneg, Int.toNat_natCast]
      rw [ih s (by omega)]
      simp only [List.all_cons, e1, foldU, List.foldl_cons, h3]
      by_cases hv : (a.getD j default).fValue = x.fValue
      · simp only [hv, decide_true, cond_true, Bool.true_and]; rfl
      · simp only [hv, decide_false, cond_false, Bool.false_and]; rfl) (k := M) (by omega) (s := [] ++ a) (by simp)
  exact key

theorem merge_loop (hM : 1048576 < M) {a b : List api_Feature} (hl : a.length + b.length ≤ 1048576) : ∀ (n fuel i k : Nat) (out : List api_Feature), i ≤ a.length → k ≤ b.length → (a.length - i) + (b.length - k) < n → n ≤ fuel → out.length ≤ i + k →
    feature_Unify.l1 M fuel a b out i k = some (pairOf ((unify n (a.drop i) (b.drop k)).map (out ++ ·)))
  | 0, fuel, i, k, out, hi, hk, hn, hf, ho => by omega
  | n + 1, 0, i, k, out, hi, hk, hn, hf, ho => by omega
  | n + 1, fuel + 1, i, k, out, hi, hk, hn, hf, ho => by
    simp only [feature_Unify.l1, feature_Unify.s1, feature_Unify.j2, feature_Unify.s2]
    rcases Nat.lt_or_ge i a.length with h1 | h1
    · obtain ⟨x, t, hx1, hx2, hx3⟩ := dropCons h1
      have r1 := merge_loop hM hl n fuel (i + 1) k (out ++ [x]) (by omega) hk (by omega) (by omega) (by simp; omega)
      rcases Nat.lt_or_ge k b.length with h2 | h2
      · obtain ⟨y, u, hy1, hy2, hy3⟩ := dropCons h2
        have r2 := merge_loop hM hl n fuel i (k + 1) (out ++ [y]) hi (by omega) (by omega) (by omega) (by simp; omega)
        have r3 := merge_loop hM hl n fuel (i + 1) (k + 1) (out ++ [x]) (by omega) (by omega) (by omega) (by omega) (by simp; omega)
        simp (disch := first | omega | (simp only [len, len0]; omega)) only [↓cpos, ↓cpos2, ↓cneg, Int.toNat_natCast, hx2, hy2, wsucc, feature_Unify.j3, feature_Unify.s3, r1, r2, r3, hx1, hy1, hx3, hy3, cnot]
        simp only [unify, ltB]
        cases Op.bytesLess x.fName y.fName with
        | true => simp only [cond_true]; cases unify n t (y :: u) <;> simp [pairOf]
        | false =>
          cases Op.bytesLess y.fName x.fName with
          | true => simp only [cond_true, cond_false]; cases unify n (x :: t) u <;> simp [pairOf]
          | false =>
            cases decide (x.fValue = y.fValue) with
            | true => simp only [cond_true, cond_false]; cases unify n t u <;> simp [pairOf]
            | false => rfl
      · have e : k = b.length := by omega
        subst e
        simp (disch := first | omega | (simp only [len, len0]; omega)) only [↓cpos, ↓cpos2, ↓cneg, Int.toNat_natCast, hx2, wsucc, feature_Unify.j3, feature_Unify.s3, r1, hx1, hx3, cnot, cond_true, List.drop_length]
        cases n with
        | zero => omega
        | succ n => cases t <;> simp [unify, pairOf]
    · have e : i = a.length := by omega
      subst e
      rcases Nat.lt_or_ge k b.length with h2 | h2
      · obtain ⟨y, u, hy1, hy2, hy3⟩ := dropCons h2
        have r2 := merge_loop hM hl n fuel a.length (k + 1) (out ++ [y]) hi (by omega) (by omega) (by omega) (by simp; omega)
        simp (disch := first | omega | (simp only [len, len0]; omega)) only [↓cpos, ↓cpos2, ↓cneg, Int.toNat_natCast, hy2, wsucc, feature_Unify.j3, feature_Unify.s3, r2, hy1, hy3, cnot, cond_false, List.drop_length]
        cases n with
        | zero => omega
        | succ n => simp [unify, pairOf]
      · have e : k = b.length := by omega
        subst e
        simp (disch := omega) only [↓cneg, List.drop_length]
        simp [unify, pairOf]

theorem feature_Unify_eq (hM : 1048576 < M) {a b : List api_Feature} (hl : a.length + b.length < 1048576) : feature_Unify M a b = some (pairOf (unify M a b)) := by
  unfold feature_Unify feature_Unify.s
  simp (disch := first | omega | (simp only [len0]; omega)) only [wrap64, ↓cpos2]
  have := merge_loop hM (by omega : a.length + b.length ≤ 1048576) M M 0 0 [] (by omega) (by omega) (by omega) (by omega) (by simp)
  simp only [List.drop_zero, List.nil_append] at this
  refine this.trans ?_
  cases unify M a b <;> rfl

/-! ### Is one record within another? -/
def hasF (b : List api_Feature) (f : api_Feature) : Bool := match getF b f.fName with
  | some v => decide (v = f.fValue)
  | none => false
def subs (a b : List api_Feature) : Bool := a.all (hasF b)

end Go.Ai.Par
set_option linter.unusedVariables false
set_option linter.unusedSectionVars false
noncomputable section
namespace Go.Ai.Par
open Go Go.Ai Go.Proofs
noncomputable def sigs62 (M : Nat) : List (Nat × Sig E) := []
noncomputable def rs62 (M : Nat) : List (Nat × Sig E) := []
noncomputable def its62 (M : Nat) : List (Nat × It E) := []
theorem sigs_ok62 (M : Nat) : SigsOk Try.prog (sigs62 M) := SigsOk.nil
theorem rs_ok62 (M : Nat) : SigsOk Try.prog (rs62 M) := SigsOk.nil
theorem its_ok62 (M : Nat) : ItsOk Try.prog (its62 M) := ItsOk.nil
noncomputable def C62 (M : Nat) : Ctx E := { ti := fun t => tisE.lookup t, sig := fun f => (sigs62 M).lookup f, it := fun f => (its62 M).lookup f, nt := 8 }
theorem SigOk_C62 (M : Nat) : SigOk Try.prog (C62 M) := sigs_ok62 M
theorem RSigOk_C62 (M : Nat) : SigOk Try.prog ({ ti := fun _ => none, sig := fun f => (rs62 M).lookup f } : Ctx E) := rs_ok62 M
theorem ItOk_C62 (M : Nat) : ItOk Try.prog (C62 M) := (its_ok62 M).ok
namespace slices_Clone_api_Feature_api_Feature
noncomputable def plans : List (Option (Plan Nm)) := [none, none, none, some { tmps := [(0, .asis)], boxes := [] }, none]
noncomputable abbrev body : Code := bodyOf Try.f62
def ps : List (Ty Nm) := [(.sl (.st .api_Feature))]
def rs : List (Ty Nm) := [(.sl (.st .api_Feature))]
def ex : List (Option Nat) := [some 71]
noncomputable def inl : List (Nat × Nat × Nat × Inl Nm) := []
theorem inl_ok : InlsOk Try.prog inl := InlsOk.nil
noncomputable def X (M : Nat) : Ext E (List api_Feature) := extOf (C62 M) (inlOf inl) (fun f => (rs62 M).lookup f) (fun _ _ _ => none) noX M 1
abbrev Rt := (List api_Feature)
noncomputable def H (M : Nat) : Hd E Rt := hd0 (X M)
theorem Hok (M : Nat) : (H M).ok (C62 M) M := hd0_ok _
abbrev Qt1 : List Dir := [.r]
abbrev Ht1 := (List api_Feature) → Option Rt
abbrev Zt := List Dir → St E → Option Rt
abbrev Ut := St E → Option Rt
noncomputable def s1 (M : Nat) (sa0_0 : (List api_Feature)) : Option Rt :=
  cond (decide (([] : List api_Feature).length + sa0_0.length ≤ lim))
   (some ([] ++ sa0_0))
   none
noncomputable def j1 (M : Nat) (sa0_0 : (List api_Feature)) : Option Rt :=
  s1 M sa0_0
noncomputable def s (M : Nat) (h1 : Ht1) (sa0_0 : (List api_Feature)) : Option Rt :=
  cond (sa0_0.isEmpty)
   (agree
     (some [])
     (h1 sa0_0))
   (h1 sa0_0)
end slices_Clone_api_Feature_api_Feature
noncomputable def slices_Clone_api_Feature_api_Feature (M : Nat) (sa0_0 : (List api_Feature)) : Option (List api_Feature) :=
  slices_Clone_api_Feature_api_Feature.s M (slices_Clone_api_Feature_api_Feature.j1 M) sa0_0
namespace slices_Clone_api_Feature_api_Feature
noncomputable def S1 (sa0_0 : (List api_Feature)) : St E :=
  mkSt 8 8 [(0, .one (.tv (.sl (.st .api_Feature) sa0_0)))] [] 0 [] [] false
noncomputable def K (M : Nat) : Cont E (List api_Feature) := kRet (C62 M) Try.f62.results.toList rs ex
noncomputable abbrev zA (M : Nat) (ZL : List Dir → Option (Ut)) (q : List Dir) : Ut := zAt (C62 M) (H M) M 0 ZL body plans (K M) q
noncomputable abbrev lA (M : Nat) (ZL : List Dir → Option (Ut)) (q : List Dir) (k : Nat) : Ut := lpAt (C62 M) (H M) M 0 ZL body plans (K M) q k
noncomputable abbrev gA (M : Nat) (Z : Zt) (q : List Dir) : Ut := seg (C62 M) (H M) 0 Z body plans (K M) q
set_option maxRecDepth 100000
theorem g1 (M : Nat) (Z : Zt) (sa0_0 : (List api_Feature)) : gA M Z Qt1 (S1 sa0_0) = s1 M sa0_0 := by kernel_rfl
theorem g (M : Nat) (Z : Zt) (sa0_0 : (List api_Feature)) : runZ (C62 M) (extZ (C62 M) (H M) 0) Z body plans (start (argHs ps sa0_0) Try.f62.ntmps 8) (K M) = s M
    (fun sa0_0 => Z Qt1 (S1 sa0_0)) sa0_0 := by kernel_rfl
theorem e1 (M : Nat) (sa0_0 : (List api_Feature)) : zA M (zlq Qt1 []) Qt1 (S1 sa0_0) = j1 M sa0_0 := by
  refine (seg_join (Hok M) 0 Qt1 body plans (K M) _ (S1 sa0_0) (around_zlq _ _ (by kernel_rfl)) (by kernel_rfl)).trans ?_
  refine (g1 M _ sa0_0).trans ?_
  rfl
theorem run (M : Nat) (sa0_0 : (List api_Feature)) : runF (rs := rs) (C62 M) (X M) M body Try.f62.ntmps 8 Try.f62.results.toList plans ps ex sa0_0 = slices_Clone_api_Feature_api_Feature M sa0_0 := by
  refine Eq.trans (b := runC (C62 M) (X M) M body plans (start (argHs ps sa0_0) Try.f62.ntmps 8) (K M)) (by kernel_rfl) ?_
  refine (zrun (Hok M) 0 body plans _ (K M) (fun _ => none) fun _ => rfl).symm.trans ?_
  refine (g M _ sa0_0).trans ?_
  have x0 := (funext fun sa0_0 => Eq.trans (b := zA M (zlq Qt1 []) Qt1 (S1 sa0_0)) (by kernel_rfl) (e1 M sa0_0) : (fun sa0_0 => zA M (fun _ => none) Qt1 (S1 sa0_0)) = j1 M)
  rw [x0]; rfl
noncomputable def sig (M : Nat) : Sig E := { ps := ps, rs := rs, ex := ex, fn := fun x => slices_Clone_api_Feature_api_Feature M x }
theorem says (M : Nat) : callable Try.prog 62 = true ∧ ∀ x y, (sig M).fn x = some y → Says Try.prog 62 (sig M) x y := by
  refine ⟨by kernel_rfl, fun x y h => ?_⟩
  refine says_of_run (S := sig M) (C := C62 M) (X := X M) (M := M) (q := 8) (plans := plans) (COk_Try) (SigOk_C62 M) (ItOk_C62 M) (by kernel_rfl) (callOk_ext COk_Try (SigOk_C62 M) (ItOk_C62 M) (by kernel_rfl) inl_ok.ok (RSigOk_C62 M) (fun _ => callOk_none) M 1) (Try.func62) (body := body) (by kernel_rfl) (by kernel_rfl) ?_
  exact (run M x).trans h
end slices_Clone_api_Feature_api_Feature
end Go.Ai.Par
end
set_option linter.unusedVariables false
set_option linter.unusedSectionVars false
noncomputable section
namespace Go.Ai.Par
open Go Go.Ai Go.Proofs
noncomputable def sigs72 (M : Nat) : List (Nat × Sig E) := [(73, feature_Subsumes.sig M)]
noncomputable def rs72 (M : Nat) : List (Nat × Sig E) := []
noncomputable def its72 (M : Nat) : List (Nat × It E) := []
theorem sigs_ok72 (M : Nat) : SigsOk Try.prog (sigs72 M) := SigsOk.cons (feature_Subsumes.says M) (SigsOk.nil)
theorem rs_ok72 (M : Nat) : SigsOk Try.prog (rs72 M) := SigsOk.nil
theorem its_ok72 (M : Nat) : ItsOk Try.prog (its72 M) := ItsOk.nil
noncomputable def C72 (fv : Nat → Value) (M : Nat) : Ctx (E.withFv fv) := { ti := fun t => (tis (fv := fv)).lookup t, sig := fun f => ((sigs72 M).lookup f).map fun S => S.withFv fv, it := fun f => ((its72 M).lookup f).map fun I => I.withFv fv, nt := 27 }
theorem SigOk_C72 (fv : Nat → Value) (M : Nat) : SigOk Try.prog (C72 fv M) := (sigs_ok72 M).fv fv
theorem RSigOk_C72 (fv : Nat → Value) (M : Nat) : SigOk Try.prog ({ ti := fun _ => none, sig := fun f => ((rs72 M).lookup f).map fun S => S.withFv fv } : Ctx (E.withFv fv)) := (rs_ok72 M).fv fv
theorem ItOk_C72 (fv : Nat → Value) (M : Nat) : ItOk Try.prog (C72 fv M) := (its_ok72 M).fv fv
namespace feature_Table_int_Matches_1
variable {fv : Nat → Value}
noncomputable def plans : List (Option (Plan Nm)) := [none, some { tmps := [(0, .asis), (2, .asis), (9, .asis), (10, .asis), (11, .asis)], boxes := [] }, none, none, none, some { tmps := [(0, .asis), (2, .asis), (9, .asis), (10, .asis), (11, .asis), (25, .asis)], boxes := [] }, none]
noncomputable abbrev body : Code := bodyOf Try.f72
def ts : List (Ty Nm) := [(.int .i64)]
def cts : List (Ty Nm) := [(.ref .feature_Table_int), (.sl (.st .api_Feature))]
def shape : List Nat := [1, 1]
noncomputable def inl : List (Nat × Nat × Nat × Inl Nm) := []
theorem inl_ok : InlsOk Try.prog inl := InlsOk.nil
noncomputable def X (fv : Nat → Value) (M : Nat) : Ext (E.withFv fv) (List (Int)) := extOf (C72 fv M) (inlOf inl) (fun f => ((rs72 M).lookup f).map fun S => S.withFv fv) (ylOf ts) noX M 1
abbrev Rt := List (Int)
noncomputable def H (fv : Nat → Value) (M : Nat) : Hd (E.withFv fv) Rt := hd0 (X fv M)
theorem Hok (fv : Nat → Value) (M : Nat) : (H fv M).ok (C72 fv M) M := hd0_ok _
abbrev Qt2 : List Dir := [.r, .k, .L, .r, .r, .l, .k, .r]
abbrev Ht2 := feature_Table_int → (List api_Feature) → Int → Bool → Option Rt
abbrev Qt1 : List Dir := [.r, .k]
abbrev Ht1 := feature_Table_int → (List api_Feature) → Int → Option Rt
abbrev Zt (fv : Nat → Value) := List Dir → St (E.withFv fv) → Option Rt
abbrev Ut (fv : Nat → Value) := St (E.withFv fv) → Option Rt
noncomputable def s2 (M : Nat) (h1 : Ht1) (c0a0_0 : feature_Table_int) (c1a1_0 : (List api_Feature)) (x11_1 : Int) (x25_2 : Bool) : Option Rt :=
  cond (x25_2)
   (some [])
   (h1 c0a0_0 c1a1_0 (IntKind.i64.wrap (x11_1 + 1)))
noncomputable def j2 (M : Nat) (h1 : Ht1) (c0a0_0 : feature_Table_int) (c1a1_0 : (List api_Feature)) (x11_1 : Int) (x25_2 : Bool) : Option Rt :=
  s2 M h1 c0a0_0 c1a1_0 x11_1 x25_2
noncomputable def s1 (M : Nat) (h2 : Ht2) (c0a0_0 : feature_Table_int) (c1a1_0 : (List api_Feature)) (x11_1 : Int) : Option Rt :=
  cond (decide (x11_1 < (c0a0_0.fentries.length : Int)))
   (cond (decide (0 ≤ x11_1) && decide (x11_1 < (c0a0_0.fentries.length : Int)))
     (Option.bind (feature_Subsumes M ((c0a0_0.fentries.getD x11_1.toNat default).fwhen) c1a1_0) fun r18_8 =>
      cond (r18_8)
       (emit ((c0a0_0.fentries.getD x11_1.toNat default).fvalue)
         (h2 c0a0_0 c1a1_0 x11_1 (!true))
         (h2 c0a0_0 c1a1_0 x11_1 (!false)))
       (h2 c0a0_0 c1a1_0 x11_1 false))
     none)
   (some [])
noncomputable def l1 (M : Nat) : Nat → Ht1
  | 0, _, _, _ => none
  | k + 1, c0a0_0, c1a1_0, x11_1 => s1 M (j2 M (l1 M k)) c0a0_0 c1a1_0 x11_1
noncomputable def s (M : Nat) (h1 : Ht1) (c0a0_0 : feature_Table_int) (c1a1_0 : (List api_Feature)) : Option Rt :=
  h1 c0a0_0 c1a1_0 0
end feature_Table_int_Matches_1
noncomputable def feature_Table_int_Matches_1 (M : Nat) (c0a0_0 : feature_Table_int) (c1a1_0 : (List api_Feature)) : Option (List (Int)) :=
  feature_Table_int_Matches_1.s M (feature_Table_int_Matches_1.l1 M M) c0a0_0 c1a1_0
namespace feature_Table_int_Matches_1
variable {fv : Nat → Value}
noncomputable def S2 (c0a0_0 : feature_Table_int) (c1a1_0 : (List api_Feature)) (x11_1 : Int) (x25_2 : Bool) : St (E.withFv fv) :=
  mkSt 27 27 [(0, .one (.tv (.spec 0))), (2, .one (.fptr [.sl (.st .api_Feature) c1a1_0])), (9, .one (.tv (.sl (.st .feature_entry_int) c0a0_0.fentries))), (10, .one (.tv (.int .i64 (c0a0_0.fentries.length : Int)))), (11, .one (.tv (.int .i64 x11_1))), (25, .one (.tv (.bool x25_2)))] [] 0 [] [] false
noncomputable def S1 (c0a0_0 : feature_Table_int) (c1a1_0 : (List api_Feature)) (x11_1 : Int) : St (E.withFv fv) :=
  mkSt 27 27 [(0, .one (.tv (.spec 0))), (2, .one (.fptr [.sl (.st .api_Feature) c1a1_0])), (9, .one (.tv (.sl (.st .feature_entry_int) c0a0_0.fentries))), (10, .one (.tv (.int .i64 (c0a0_0.fentries.length : Int)))), (11, .one (.tv (.int .i64 x11_1)))] [] 0 [] [] false
noncomputable def K (M : Nat) : Cont (E.withFv fv) (List (Int)) := kEnd (C72 fv M) Try.f72.results.toList
noncomputable abbrev zA (fv : Nat → Value) (M : Nat) (ZL : List Dir → Option (Ut fv)) (q : List Dir) : Ut fv := zAt (C72 fv M) (H fv M) M 0 ZL body plans (K (fv := fv) M) q
noncomputable abbrev lA (fv : Nat → Value) (M : Nat) (ZL : List Dir → Option (Ut fv)) (q : List Dir) (k : Nat) : Ut fv := lpAt (C72 fv M) (H fv M) M 0 ZL body plans (K (fv := fv) M) q k
noncomputable abbrev gA (fv : Nat → Value) (M : Nat) (Z : Zt fv) (q : List Dir) : Ut fv := seg (C72 fv M) (H fv M) 0 Z body plans (K (fv := fv) M) q
set_option maxRecDepth 100000
theorem g2 (M : Nat) (Z : Zt fv) (c0a0_0 : feature_Table_int) (c1a1_0 : (List api_Feature)) (x11_1 : Int) (x25_2 : Bool) : gA fv M Z Qt2 (S2 c0a0_0 c1a1_0 x11_1 x25_2) = s2 M
    (fun c0a0_0 c1a1_0 x11_1 => Z Qt1 (S1 c0a0_0 c1a1_0 x11_1)) c0a0_0 c1a1_0 x11_1 x25_2 := by kernel_rfl
theorem g1 (M : Nat) (Z : Zt fv) (c0a0_0 : feature_Table_int) (c1a1_0 : (List api_Feature)) (x11_1 : Int) : gA fv M Z Qt1 (S1 c0a0_0 c1a1_0 x11_1) = s1 M
    (fun c0a0_0 c1a1_0 x11_1 x25_2 => Z Qt2 (S2 c0a0_0 c1a1_0 x11_1 x25_2)) c0a0_0 c1a1_0 x11_1 := by kernel_rfl
theorem g (M : Nat) (Z : Zt fv) (c0a0_0 : feature_Table_int) (c1a1_0 : (List api_Feature)) : runZ (C72 fv M) (extZ (C72 fv M) (H fv M) 0) Z body plans (start (.one (.tv (.spec 0)) :: capHs shape (viewTup (E := E.withFv fv) cts (c0a0_0, c1a1_0))) Try.f72.ntmps 27) (K (fv := fv) M) = s M
    (fun c0a0_0 c1a1_0 x11_1 => Z Qt1 (S1 c0a0_0 c1a1_0 x11_1)) c0a0_0 c1a1_0 := by kernel_rfl
theorem e2 (M : Nat) (Z1 : Ut fv) (h1 : Ht1) (hZ1 : ∀ (c0a0_0 : feature_Table_int) (c1a1_0 : (List api_Feature)) (x11_1 : Int), Z1 (S1 c0a0_0 c1a1_0 x11_1) = h1 c0a0_0 c1a1_0 x11_1) (c0a0_0 : feature_Table_int) (c1a1_0 : (List api_Feature)) (x11_1 : Int) (x25_2 : Bool) : zA fv M (zlq Qt2 [Z1]) Qt2 (S2 c0a0_0 c1a1_0 x11_1 x25_2) = j2 M h1 c0a0_0 c1a1_0 x11_1 x25_2 := by
  refine (seg_join (Hok fv M) 0 Qt2 body plans (K (fv := fv) M) _ (S2 c0a0_0 c1a1_0 x11_1 x25_2) (around_zlq _ _ (by kernel_rfl)) (by kernel_rfl)).trans ?_
  refine (g2 M _ c0a0_0 c1a1_0 x11_1 x25_2).trans ?_
  have x0 := (funext fun c0a0_0 => funext fun c1a1_0 => funext fun x11_1 => Eq.trans (b := Z1 (S1 c0a0_0 c1a1_0 x11_1)) (by kernel_rfl) (hZ1 c0a0_0 c1a1_0 x11_1) : (fun c0a0_0 c1a1_0 x11_1 => zA fv M (zlq Qt2 [Z1]) Qt1 (S1 c0a0_0 c1a1_0 x11_1)) = h1)
  rw [x0]; rfl
theorem el1 (M : Nat) (k : Nat) (c0a0_0 : feature_Table_int) (c1a1_0 : (List api_Feature)) (x11_1 : Int) : lA fv M (zlq Qt1 []) Qt1 k (S1 c0a0_0 c1a1_0 x11_1) = l1 M k c0a0_0 c1a1_0 x11_1 := by
  induction k generalizing c0a0_0 c1a1_0 x11_1 with
  | zero => kernel_rfl
  | succ k ih =>
    refine Eq.trans (b := lA fv M (zlq Qt1 [lA fv M (zlq Qt1 []) Qt1 k]) Qt1 (k + 1) (S1 c0a0_0 c1a1_0 x11_1)) (by kernel_rfl) ?_
    refine (seg_loop (Hok fv M) 0 Qt1 body plans (K (fv := fv) M) _ (S1 c0a0_0 c1a1_0 x11_1) (around_zlq _ _ (by kernel_rfl)) (by kernel_rfl) (by kernel_rfl)).trans ?_
    refine (g1 M _ c0a0_0 c1a1_0 x11_1).trans ?_
    have x0 := (funext fun c0a0_0 => funext fun c1a1_0 => funext fun x11_1 => funext fun x25_2 => Eq.trans (b := zA fv M (zlq Qt2 [(lA fv M (zlq Qt1 []) Qt1 k)]) Qt2 (S2 c0a0_0 c1a1_0 x11_1 x25_2)) (by kernel_rfl) (e2 M (lA fv M (zlq Qt1 []) Qt1 k) (l1 M k) (fun c0a0_0 c1a1_0 x11_1 => ih c0a0_0 c1a1_0 x11_1) c0a0_0 c1a1_0 x11_1 x25_2) : (fun c0a0_0 c1a1_0 x11_1 x25_2 => zA fv M (zlq Qt1 [lA fv M (zlq Qt1 []) Qt1 k]) Qt2 (S2 c0a0_0 c1a1_0 x11_1 x25_2)) = j2 M (l1 M k))
    rw [x0]; rfl
theorem e1 (M : Nat) (c0a0_0 : feature_Table_int) (c1a1_0 : (List api_Feature)) (x11_1 : Int) : zA fv M (zlq Qt1 []) Qt1 (S1 c0a0_0 c1a1_0 x11_1) = l1 M M c0a0_0 c1a1_0 x11_1 :=
  Eq.trans (b := lA fv M (zlq Qt1 []) Qt1 M (S1 c0a0_0 c1a1_0 x11_1)) (by kernel_rfl) (el1 M M c0a0_0 c1a1_0 x11_1)
theorem run (M : Nat) (c0a0_0 : feature_Table_int) (c1a1_0 : (List api_Feature)) : runC (C72 fv M) (X fv M) M body plans (start (.one (.tv (.spec 0)) :: capHs shape (viewTup (E := E.withFv fv) cts (c0a0_0, c1a1_0))) Try.f72.ntmps 27) (K (fv := fv) M) = feature_Table_int_Matches_1 M c0a0_0 c1a1_0 := by
  refine (zrun (Hok fv M) 0 body plans _ (K (fv := fv) M) (fun _ => none) fun _ => rfl).symm.trans ?_
  refine (g M _ c0a0_0 c1a1_0).trans ?_
  have x0 := (funext fun c0a0_0 => funext fun c1a1_0 => funext fun x11_1 => Eq.trans (b := zA fv M (zlq Qt1 []) Qt1 (S1 c0a0_0 c1a1_0 x11_1)) (by kernel_rfl) (e1 M c0a0_0 c1a1_0 x11_1) : (fun c0a0_0 c1a1_0 x11_1 => zA fv M (fun _ => none) Qt1 (S1 c0a0_0 c1a1_0 x11_1)) = l1 M M)
  rw [x0]; rfl
noncomputable def it (M : Nat) : It E := { ts := ts, cts := cts, shape := shape, fn := fun x => feature_Table_int_Matches_1 M x.1 x.2 }
theorem says (M : Nat) : ItSays Try.prog 72 (it M) := by
  refine ⟨by kernel_rfl, fun y xs h w0 F0 lb hF hT hc => ?_⟩
  refine seqX_of_run (E := E) (ts := ts) (cts := cts) (C := fun fv => C72 fv M) (X := fun fv => X fv M) (M := M) (q := 27) (plans := plans) (y := y) (fun fv => COk_Tryv) (fun fv => SigOk_C72 fv M) (fun fv => ItOk_C72 fv M) (by kernel_rfl) (fun fv => callOk_yl COk_Tryv (SigOk_C72 fv M) (ItOk_C72 fv M) (by kernel_rfl) inl_ok.ok (RSigOk_C72 fv M) (fun _ => callOk_none) M 1) (Try.func72) (body := body) (by kernel_rfl) (fun fv => ?_) hT hc
  obtain ⟨c0a0_0, c1a1_0⟩ := y
  exact (run (fv := fv) M c0a0_0 c1a1_0).trans h
end feature_Table_int_Matches_1
end Go.Ai.Par
end
set_option linter.unusedVariables false
set_option linter.unusedSectionVars false
noncomputable section
namespace Go.Ai.Par
open Go Go.Ai Go.Proofs
noncomputable def sigs44 (M : Nat) : List (Nat × Sig E) := []
noncomputable def rs44 (M : Nat) : List (Nat × Sig E) := []
noncomputable def its44 (M : Nat) : List (Nat × It E) := [(72, feature_Table_int_Matches_1.it M)]
theorem sigs_ok44 (M : Nat) : SigsOk Try.prog (sigs44 M) := SigsOk.nil
theorem rs_ok44 (M : Nat) : SigsOk Try.prog (rs44 M) := SigsOk.nil
theorem its_ok44 (M : Nat) : ItsOk Try.prog (its44 M) := ItsOk.cons (feature_Table_int_Matches_1.says M) (ItsOk.nil)
noncomputable def C44 (M : Nat) : Ctx E := { ti := fun t => tisE.lookup t, sig := fun f => (sigs44 M).lookup f, it := fun f => (its44 M).lookup f, nt := 14 }
theorem SigOk_C44 (M : Nat) : SigOk Try.prog (C44 M) := sigs_ok44 M
theorem RSigOk_C44 (M : Nat) : SigOk Try.prog ({ ti := fun _ => none, sig := fun f => (rs44 M).lookup f } : Ctx E) := rs_ok44 M
theorem ItOk_C44 (M : Nat) : ItOk Try.prog (C44 M) := (its_ok44 M).ok
namespace feature_Table_int_Find
noncomputable def plans : List (Option (Plan Nm)) := [none, none, some { tmps := [(4, .asis), (5, .asis)], boxes := [(4, [.asis]), (5, [.asis])] }, none, none, none, none]
noncomputable abbrev body : Code := bodyOf Try.f44
def ps : List (Ty Nm) := [(.ref .feature_Table_int), (.sl (.st .api_Feature))]
def rs : List (Ty Nm) := [(.int .i64), .bool]
def ex : List (Option Nat) := [none, none]
noncomputable def inl : List (Nat × Nat × Nat × Inl Nm) := [(0, 10, 63, { off := 14, ntmps := Try.f63.ntmps, body := bodyOf Try.f63, res := Try.f63.results.toList, plans := [] })]
theorem inl_ok : InlsOk Try.prog inl := InlsOk.cons ⟨by kernel_rfl, _, Try.func63, by kernel_rfl, rfl, rfl⟩ (InlsOk.nil)
noncomputable def X (M : Nat) : Ext E (Int × Bool) := extOf (C44 M) (inlOf inl) (fun f => (rs44 M).lookup f) (fun _ _ _ => none) noX M 2
abbrev Rt := Int × Bool
noncomputable def H (M : Nat) : Hd E Rt := hd0 (X M)
theorem Hok (M : Nat) : (H M).ok (C44 M) M := hd0_ok _
abbrev Qt1 : List Dir := [.r, .l, .r, .k]
abbrev Ht1 := (List (Int)) → Option Rt
abbrev Zt := List Dir → St E → Option Rt
abbrev Ut := St E → Option Rt
noncomputable def s1 (M : Nat) (ri72_1 : List (Int)) : Option Rt :=
  lcase ri72_1
   (some (0, false))
   (fun x900_1 xs900_1 =>
    some (x900_1, true))
noncomputable def l1 (M : Nat) : Nat → Ht1
  | 0, _ => none
  | k + 1, ri72_1 => s1 M ri72_1
noncomputable def s (M : Nat) (h1 : Ht1) (ta0_0 : feature_Table_int) (ra1_0 : (List api_Feature)) : Option Rt :=
  Option.bind (feature_Table_int_Matches_1 M ta0_0 ra1_0) fun ri72_1 =>
  h1 ri72_1
end feature_Table_int_Find
noncomputable def feature_Table_int_Find (M : Nat) (ta0_0 : feature_Table_int) (ra1_0 : (List api_Feature)) : Option (Int × Bool) :=
  feature_Table_int_Find.s M (feature_Table_int_Find.l1 M M) ta0_0 ra1_0
namespace feature_Table_int_Find
noncomputable def S1 (ri72_1 : List (Int)) : St E :=
  mkSt 14 20 [(4, .one (.ptr 4 0)), (5, .one (.ptr 5 0))] [(4, .cells [.tv (.int .i64 0)]), (5, .cells [.tv (.bool false)])] 0 [] [⟨[(.int .i64)], ri72_1⟩] true
noncomputable def K (M : Nat) : Cont E (Int × Bool) := kRet (C44 M) Try.f44.results.toList rs ex
noncomputable abbrev zA (M : Nat) (ZL : List Dir → Option (Ut)) (q : List Dir) : Ut := zAt (C44 M) (H M) M 0 ZL body plans (K M) q
noncomputable abbrev lA (M : Nat) (ZL : List Dir → Option (Ut)) (q : List Dir) (k : Nat) : Ut := lpAt (C44 M) (H M) M 0 ZL body plans (K M) q k
noncomputable abbrev gA (M : Nat) (Z : Zt) (q : List Dir) : Ut := seg (C44 M) (H M) 0 Z body plans (K M) q
set_option maxRecDepth 100000
theorem g1 (M : Nat) (Z : Zt) (ri72_1 : List (Int)) : gA M Z Qt1 (S1 ri72_1) = s1 M ri72_1 := by kernel_rfl
theorem g (M : Nat) (Z : Zt) (ta0_0 : feature_Table_int) (ra1_0 : (List api_Feature)) : runZ (C44 M) (extZ (C44 M) (H M) 0) Z body plans (start (argHs ps (ta0_0, ra1_0)) Try.f44.ntmps 20) (K M) = s M
    (fun ri72_1 => Z Qt1 (S1 ri72_1)) ta0_0 ra1_0 := by kernel_rfl
theorem el1 (M : Nat) (k : Nat) (ri72_1 : List (Int)) : lA M (zlq Qt1 []) Qt1 k (S1 ri72_1) = l1 M k ri72_1 := by
  induction k generalizing ri72_1 with
  | zero => kernel_rfl
  | succ k ih =>
    refine Eq.trans (b := lA M (zlq Qt1 [lA M (zlq Qt1 []) Qt1 k]) Qt1 (k + 1) (S1 ri72_1)) (by kernel_rfl) ?_
    refine (seg_loop (Hok M) 0 Qt1 body plans (K M) _ (S1 ri72_1) (around_zlq _ _ (by kernel_rfl)) (by kernel_rfl) (by kernel_rfl)).trans ?_
    refine (g1 M _ ri72_1).trans ?_
    rfl
theorem e1 (M : Nat) (ri72_1 : List (Int)) : zA M (zlq Qt1 []) Qt1 (S1 ri72_1) = l1 M M ri72_1 :=
  Eq.trans (b := lA M (zlq Qt1 []) Qt1 M (S1 ri72_1)) (by kernel_rfl) (el1 M M ri72_1)
theorem run (M : Nat) (ta0_0 : feature_Table_int) (ra1_0 : (List api_Feature)) : runF (rs := rs) (C44 M) (X M) M body Try.f44.ntmps 20 Try.f44.results.toList plans ps ex (ta0_0, ra1_0) = feature_Table_int_Find M ta0_0 ra1_0 := by
  refine Eq.trans (b := runC (C44 M) (X M) M body plans (start (argHs ps (ta0_0, ra1_0)) Try.f44.ntmps 20) (K M)) (by kernel_rfl) ?_
  refine (zrun (Hok M) 0 body plans _ (K M) (fun _ => none) fun _ => rfl).symm.trans ?_
  refine (g M _ ta0_0 ra1_0).trans ?_
  have x0 := (funext fun ri72_1 => Eq.trans (b := zA M (zlq Qt1 []) Qt1 (S1 ri72_1)) (by kernel_rfl) (e1 M ri72_1) : (fun ri72_1 => zA M (fun _ => none) Qt1 (S1 ri72_1)) = l1 M M)
  rw [x0]; rfl
noncomputable def sig (M : Nat) : Sig E := { ps := ps, rs := rs, ex := ex, fn := fun x => feature_Table_int_Find M x.1 x.2 }
theorem says (M : Nat) : callable Try.prog 44 = true ∧ ∀ x y, (sig M).fn x = some y → Says Try.prog 44 (sig M) x y := by
  refine ⟨by kernel_rfl, fun x y h => ?_⟩
  refine says_of_run (S := sig M) (C := C44 M) (X := X M) (M := M) (q := 20) (plans := plans) (COk_Try) (SigOk_C44 M) (ItOk_C44 M) (by kernel_rfl) (callOk_ext COk_Try (SigOk_C44 M) (ItOk_C44 M) (by kernel_rfl) inl_ok.ok (RSigOk_C44 M) (fun _ => callOk_none) M 2) (Try.func44) (body := body) (by kernel_rfl) (by kernel_rfl) ?_
  obtain ⟨ta0_0, ra1_0⟩ := x
  exact (run M ta0_0 ra1_0).trans h
end feature_Table_int_Find
end Go.Ai.Par
end
set_option linter.unusedVariables false
set_option linter.unusedSectionVars false
noncomputable section
namespace Go.Ai.Par
open Go Go.Ai Go.Proofs
noncomputable def sigs23 (M : Nat) : List (Nat × Sig E) := [(62, slices_Clone_api_Feature_api_Feature.sig M)]
noncomputable def rs23 (M : Nat) : List (Nat × Sig E) := [(44, feature_Table_int_Find.sig M)]
noncomputable def its23 (M : Nat) : List (Nat × It E) := []
theorem sigs_ok23 (M : Nat) : SigsOk Try.prog (sigs23 M) := SigsOk.cons (slices_Clone_api_Feature_api_Feature.says M) (SigsOk.nil)
theorem rs_ok23 (M : Nat) : SigsOk Try.prog (rs23 M) := SigsOk.cons (feature_Table_int_Find.says M) (SigsOk.nil)
theorem its_ok23 (M : Nat) : ItsOk Try.prog (its23 M) := ItsOk.nil
noncomputable def C23 (M : Nat) : Ctx E := { ti := fun t => tisE.lookup t, sig := fun f => (sigs23 M).lookup f, it := fun f => (its23 M).lookup f, nt := 50 }
theorem SigOk_C23 (M : Nat) : SigOk Try.prog (C23 M) := sigs_ok23 M
theorem RSigOk_C23 (M : Nat) : SigOk Try.prog ({ ti := fun _ => none, sig := fun f => (rs23 M).lookup f } : Ctx E) := rs_ok23 M
theorem ItOk_C23 (M : Nat) : ItOk Try.prog (C23 M) := (its_ok23 M).ok
namespace paradigm_Chosen
noncomputable def plans : List (Option (Plan Nm)) := [none, none, none, none, none, none, none, some { tmps := [(2, .asis), (7, .asis), (8, .asis), (29, .asis), (30, .asis), (31, .asis)], boxes := [(52, [.own (300052, 1, 99) (.st .feature_entry_int)])] }, none, none, none, none, some { tmps := [(2, .asis), (7, .asis)], boxes := [(52, [.own (300052, 1, 99) (.st .feature_entry_int)])] }, none, none, none, none, none]
noncomputable abbrev body : Code := bodyOf Try.f23
def ps : List (Ty Nm) := [(.st .api_Paradigm), (.int .i64), (.sl (.st .api_Feature))]
def rs : List (Ty Nm) := [(.int .i64)]
def ex : List (Option Nat) := [none]
noncomputable def inl : List (Nat × Nat × Nat × Inl Nm) := [(0, 22, 42, { off := 50, ntmps := Try.f42.ntmps, body := bodyOf Try.f42, res := Try.f42.results.toList, plans := [] }), (0, 40, 43, { off := 53, ntmps := Try.f43.ntmps, body := bodyOf Try.f43, res := Try.f43.results.toList, plans := [] })]
theorem inl_ok : InlsOk Try.prog inl := InlsOk.cons ⟨by kernel_rfl, _, Try.func42, by kernel_rfl, rfl, rfl⟩ (InlsOk.cons ⟨by kernel_rfl, _, Try.func43, by kernel_rfl, rfl, rfl⟩ (InlsOk.nil))
noncomputable def X (M : Nat) : Ext E Int := extOf (C23 M) (inlOf inl) (fun f => (rs23 M).lookup f) (fun _ _ _ => none) noX M 2
abbrev Rt := Int
noncomputable def H (M : Nat) : Hd E Rt := hd0 (X M)
theorem Hok (M : Nat) : (H M).ok (C23 M) M := hd0_ok _
abbrev Qt2 : List Dir := [.r, .r, .r, .r]
abbrev Ht2 := (List api_Feature) → (List feature_entry_int) → Option Rt
abbrev Qt1 : List Dir := [.r, .r, .r, .r, .l, .r, .k]
abbrev Ht1 := (List api_Feature) → api_Paradigm → Int → Int → (List feature_entry_int) → Option Rt
abbrev Zt := List Dir → St E → Option Rt
abbrev Ut := St E → Option Rt
noncomputable def s2 (M : Nat) (featuresa2_0 : (List api_Feature)) (xb052_2 : (List feature_entry_int)) : Option Rt :=
  Option.bind (feature_Table_int_Find M (feature_Table_int.mk xb052_2) featuresa2_0) fun r45_9 =>
  cond (r45_9.2)
   (some r45_9.1)
   (some (-1))
noncomputable def j2 (M : Nat) (featuresa2_0 : (List api_Feature)) (xb052_2 : (List feature_entry_int)) : Option Rt :=
  s2 M featuresa2_0 xb052_2
noncomputable def s1 (M : Nat) (h1 : Ht1) (h2 : Ht2) (featuresa2_0 : (List api_Feature)) (pa0_0 : api_Paradigm) (slota1_0 : Int) (x31_1 : Int) (xb052_1 : (List feature_entry_int)) : Option Rt :=
  cond (decide (x31_1 < ((pa0_0.fSlots.getD slota1_0.toNat default).length : Int)))
   (cond (decide (0 ≤ x31_1) && decide (x31_1 < ((pa0_0.fSlots.getD slota1_0.toNat default).length : Int)))
     (Option.bind (slices_Clone_api_Feature_api_Feature M (((pa0_0.fSlots.getD slota1_0.toNat default).getD x31_1.toNat default).fWhen)) fun r65_8 =>
      cond (decide (xb052_1.length + ([feature_entry_int.mk r65_8 x31_1] : List feature_entry_int).length ≤ lim))
       (h1 featuresa2_0 pa0_0 slota1_0 (IntKind.i64.wrap (x31_1 + 1)) (xb052_1 ++ [feature_entry_int.mk r65_8 x31_1]))
       none)
     none)
   (h2 featuresa2_0 xb052_1)
noncomputable def l1 (M : Nat) : Nat → Ht1
  | 0, _, _, _, _, _ => none
  | k + 1, featuresa2_0, pa0_0, slota1_0, x31_1, xb052_1 => s1 M (l1 M k) (j2 M) featuresa2_0 pa0_0 slota1_0 x31_1 xb052_1
noncomputable def s (M : Nat) (h1 : Ht1) (pa0_0 : api_Paradigm) (slota1_0 : Int) (featuresa2_0 : (List api_Feature)) : Option Rt :=
  cond (decide (slota1_0 < 0))
   (some (-1))
   (cond (decide ((pa0_0.fSlots.length : Int) ≤ slota1_0))
     (some (-1))
     (cond (decide (0 ≤ slota1_0) && decide (slota1_0 < (pa0_0.fSlots.length : Int)))
       (h1 featuresa2_0 pa0_0 slota1_0 0 ([] : (List feature_entry_int)))
       none))
end paradigm_Chosen
noncomputable def paradigm_Chosen (M : Nat) (pa0_0 : api_Paradigm) (slota1_0 : Int) (featuresa2_0 : (List api_Feature)) : Option Int :=
  paradigm_Chosen.s M (paradigm_Chosen.l1 M M) pa0_0 slota1_0 featuresa2_0
namespace paradigm_Chosen
noncomputable def S2 (featuresa2_0 : (List api_Feature)) (xb052_2 : (List feature_entry_int)) : St E :=
  mkSt 50 72 [(2, .one (.tv (.sl (.st .api_Feature) featuresa2_0))), (7, .one (.ptr 52 0))] [(52, .cells [.tok (300052, 1, 99) (.st .feature_entry_int) xb052_2])] 0 [] [] false
noncomputable def S1 (featuresa2_0 : (List api_Feature)) (pa0_0 : api_Paradigm) (slota1_0 : Int) (x31_1 : Int) (xb052_1 : (List feature_entry_int)) : St E :=
  mkSt 50 72 [(2, .one (.tv (.sl (.st .api_Feature) featuresa2_0))), (7, .one (.ptr 52 0)), (8, .one (.fn (.func 43) [.ptr 52 0] [])), (29, .one (.tv (.sl (.st .api_Affix) (pa0_0.fSlots.getD slota1_0.toNat default)))), (30, .one (.tv (.int .i64 ((pa0_0.fSlots.getD slota1_0.toNat default).length : Int)))), (31, .one (.tv (.int .i64 x31_1)))] [(52, .cells [.tok (300052, 1, 99) (.st .feature_entry_int) xb052_1])] 0 [] [] false
noncomputable def K (M : Nat) : Cont E Int := kRet (C23 M) Try.f23.results.toList rs ex
noncomputable abbrev zA (M : Nat) (ZL : List Dir → Option (Ut)) (q : List Dir) : Ut := zAt (C23 M) (H M) M 0 ZL body plans (K M) q
noncomputable abbrev lA (M : Nat) (ZL : List Dir → Option (Ut)) (q : List Dir) (k : Nat) : Ut := lpAt (C23 M) (H M) M 0 ZL body plans (K M) q k
noncomputable abbrev gA (M : Nat) (Z : Zt) (q : List Dir) : Ut := seg (C23 M) (H M) 0 Z body plans (K M) q
set_option maxRecDepth 100000
theorem g2 (M : Nat) (Z : Zt) (featuresa2_0 : (List api_Feature)) (xb052_2 : (List feature_entry_int)) : gA M Z Qt2 (S2 featuresa2_0 xb052_2) = s2 M featuresa2_0 xb052_2 := by kernel_rfl
theorem g1 (M : Nat) (Z : Zt) (featuresa2_0 : (List api_Feature)) (pa0_0 : api_Paradigm) (slota1_0 : Int) (x31_1 : Int) (xb052_1 : (List feature_entry_int)) : gA M Z Qt1 (S1 featuresa2_0 pa0_0 slota1_0 x31_1 xb052_1) = s1 M
    (fun featuresa2_0 pa0_0 slota1_0 x31_1 xb052_1 => Z Qt1 (S1 featuresa2_0 pa0_0 slota1_0 x31_1 xb052_1))
    (fun featuresa2_0 xb052_2 => Z Qt2 (S2 featuresa2_0 xb052_2)) featuresa2_0 pa0_0 slota1_0 x31_1 xb052_1 := by kernel_rfl
theorem g (M : Nat) (Z : Zt) (pa0_0 : api_Paradigm) (slota1_0 : Int) (featuresa2_0 : (List api_Feature)) : runZ (C23 M) (extZ (C23 M) (H M) 0) Z body plans (start (argHs ps (pa0_0, slota1_0, featuresa2_0)) Try.f23.ntmps 72) (K M) = s M
    (fun featuresa2_0 pa0_0 slota1_0 x31_1 xb052_1 => Z Qt1 (S1 featuresa2_0 pa0_0 slota1_0 x31_1 xb052_1)) pa0_0 slota1_0 featuresa2_0 := by kernel_rfl
theorem e2 (M : Nat) (featuresa2_0 : (List api_Feature)) (xb052_2 : (List feature_entry_int)) : zA M (zlq Qt2 []) Qt2 (S2 featuresa2_0 xb052_2) = j2 M featuresa2_0 xb052_2 := by
  refine (seg_join (Hok M) 0 Qt2 body plans (K M) _ (S2 featuresa2_0 xb052_2) (around_zlq _ _ (by kernel_rfl)) (by kernel_rfl)).trans ?_
  refine (g2 M _ featuresa2_0 xb052_2).trans ?_
  rfl
theorem el1 (M : Nat) (k : Nat) (featuresa2_0 : (List api_Feature)) (pa0_0 : api_Paradigm) (slota1_0 : Int) (x31_1 : Int) (xb052_1 : (List feature_entry_int)) : lA M (zlq Qt1 []) Qt1 k (S1 featuresa2_0 pa0_0 slota1_0 x31_1 xb052_1) = l1 M k featuresa2_0 pa0_0 slota1_0 x31_1 xb052_1 := by
  induction k generalizing featuresa2_0 pa0_0 slota1_0 x31_1 xb052_1 with
  | zero => kernel_rfl
  | succ k ih =>
    refine Eq.trans (b := lA M (zlq Qt1 [lA M (zlq Qt1 []) Qt1 k]) Qt1 (k + 1) (S1 featuresa2_0 pa0_0 slota1_0 x31_1 xb052_1)) (by kernel_rfl) ?_
    refine (seg_loop (Hok M) 0 Qt1 body plans (K M) _ (S1 featuresa2_0 pa0_0 slota1_0 x31_1 xb052_1) (around_zlq _ _ (by kernel_rfl)) (by kernel_rfl) (by kernel_rfl)).trans ?_
    refine (g1 M _ featuresa2_0 pa0_0 slota1_0 x31_1 xb052_1).trans ?_
    have x0 := (funext fun featuresa2_0 => funext fun pa0_0 => funext fun slota1_0 => funext fun x31_1 => funext fun xb052_1 => Eq.trans (b := lA M (zlq Qt1 []) Qt1 k (S1 featuresa2_0 pa0_0 slota1_0 x31_1 xb052_1)) (by kernel_rfl) (ih featuresa2_0 pa0_0 slota1_0 x31_1 xb052_1) : (fun featuresa2_0 pa0_0 slota1_0 x31_1 xb052_1 => zA M (zlq Qt1 [lA M (zlq Qt1 []) Qt1 k]) Qt1 (S1 featuresa2_0 pa0_0 slota1_0 x31_1 xb052_1)) = l1 M k)
    have x1 := (funext fun featuresa2_0 => funext fun xb052_2 => Eq.trans (b := zA M (zlq Qt2 []) Qt2 (S2 featuresa2_0 xb052_2)) (by kernel_rfl) (e2 M featuresa2_0 xb052_2) : (fun featuresa2_0 xb052_2 => zA M (zlq Qt1 [lA M (zlq Qt1 []) Qt1 k]) Qt2 (S2 featuresa2_0 xb052_2)) = j2 M)
    rw [x0, x1]; rfl
theorem e1 (M : Nat) (featuresa2_0 : (List api_Feature)) (pa0_0 : api_Paradigm) (slota1_0 : Int) (x31_1 : Int) (xb052_1 : (List feature_entry_int)) : zA M (zlq Qt1 []) Qt1 (S1 featuresa2_0 pa0_0 slota1_0 x31_1 xb052_1) = l1 M M featuresa2_0 pa0_0 slota1_0 x31_1 xb052_1 :=
  Eq.trans (b := lA M (zlq Qt1 []) Qt1 M (S1 featuresa2_0 pa0_0 slota1_0 x31_1 xb052_1)) (by kernel_rfl) (el1 M M featuresa2_0 pa0_0 slota1_0 x31_1 xb052_1)
theorem run (M : Nat) (pa0_0 : api_Paradigm) (slota1_0 : Int) (featuresa2_0 : (List api_Feature)) : runF (rs := rs) (C23 M) (X M) M body Try.f23.ntmps 72 Try.f23.results.toList plans ps ex (pa0_0, slota1_0, featuresa2_0) = paradigm_Chosen M pa0_0 slota1_0 featuresa2_0 := by
  refine Eq.trans (b := runC (C23 M) (X M) M body plans (start (argHs ps (pa0_0, slota1_0, featuresa2_0)) Try.f23.ntmps 72) (K M)) (by kernel_rfl) ?_
  refine (zrun (Hok M) 0 body plans _ (K M) (fun _ => none) fun _ => rfl).symm.trans ?_
  refine (g M _ pa0_0 slota1_0 featuresa2_0).trans ?_
  have x0 := (funext fun featuresa2_0 => funext fun pa0_0 => funext fun slota1_0 => funext fun x31_1 => funext fun xb052_1 => Eq.trans (b := zA M (zlq Qt1 []) Qt1 (S1 featuresa2_0 pa0_0 slota1_0 x31_1 xb052_1)) (by kernel_rfl) (e1 M featuresa2_0 pa0_0 slota1_0 x31_1 xb052_1) : (fun featuresa2_0 pa0_0 slota1_0 x31_1 xb052_1 => zA M (fun _ => none) Qt1 (S1 featuresa2_0 pa0_0 slota1_0 x31_1 xb052_1)) = l1 M M)
  rw [x0]; rfl
noncomputable def sig (M : Nat) : Sig E := { ps := ps, rs := rs, ex := ex, fn := fun x => paradigm_Chosen M x.1 x.2.1 x.2.2 }
theorem says (M : Nat) : callable Try.prog 23 = true ∧ ∀ x y, (sig M).fn x = some y → Says Try.prog 23 (sig M) x y := by
  refine ⟨by kernel_rfl, fun x y h => ?_⟩
  refine says_of_run (S := sig M) (C := C23 M) (X := X M) (M := M) (q := 72) (plans := plans) (COk_Try) (SigOk_C23 M) (ItOk_C23 M) (by kernel_rfl) (callOk_ext COk_Try (SigOk_C23 M) (ItOk_C23 M) (by kernel_rfl) inl_ok.ok (RSigOk_C23 M) (fun _ => callOk_none) M 2) (Try.func23) (body := body) (by kernel_rfl) (by kernel_rfl) ?_
  obtain ⟨pa0_0, slota1_0, featuresa2_0⟩ := x
  exact (run M pa0_0 slota1_0 featuresa2_0).trans h
end paradigm_Chosen
end Go.Ai.Par
end
set_option linter.unusedVariables false
set_option linter.unusedSectionVars false
noncomputable section
namespace Go.Ai.Par
open Go Go.Ai Go.Proofs
noncomputable def sigs24 (M : Nat) : List (Nat × Sig E) := [(45, pentaglotref02_Subsumes.sig M)]
noncomputable def rs24 (M : Nat) : List (Nat × Sig E) := []
noncomputable def its24 (M : Nat) : List (Nat × It E) := []
theorem sigs_ok24 (M : Nat) : SigsOk Try.prog (sigs24 M) := SigsOk.cons (pentaglotref02_Subsumes.says M) (SigsOk.nil)
theorem rs_ok24 (M : Nat) : SigsOk Try.prog (rs24 M) := SigsOk.nil
theorem its_ok24 (M : Nat) : ItsOk Try.prog (its24 M) := ItsOk.nil
noncomputable def C24 (M : Nat) : Ctx E := { ti := fun t => tisE.lookup t, sig := fun f => (sigs24 M).lookup f, it := fun f => (its24 M).lookup f, nt := 39 }
theorem SigOk_C24 (M : Nat) : SigOk Try.prog (C24 M) := sigs_ok24 M
theorem RSigOk_C24 (M : Nat) : SigOk Try.prog ({ ti := fun _ => none, sig := fun f => (rs24 M).lookup f } : Ctx E) := rs_ok24 M
theorem ItOk_C24 (M : Nat) : ItOk Try.prog (C24 M) := (its_ok24 M).ok
namespace pentaglotref10_Chosen
noncomputable def plans : List (Option (Plan Nm)) := [none, none, none, none, none, some { tmps := [(1, .asis), (2, .asis), (3, .asis), (7, .asis)], boxes := [(3, [.asis, .asis, .asis])] }, none, none, none, none, none, none, none]
noncomputable abbrev body : Code := bodyOf Try.f24
def ps : List (Ty Nm) := [(.st .api_Paradigm), (.int .i64), (.sl (.st .api_Feature))]
def rs : List (Ty Nm) := [(.int .i64)]
def ex : List (Option Nat) := [none]
noncomputable def inl : List (Nat × Nat × Nat × Inl Nm) := []
theorem inl_ok : InlsOk Try.prog inl := InlsOk.nil
noncomputable def X (M : Nat) : Ext E Int := extOf (C24 M) (inlOf inl) (fun f => (rs24 M).lookup f) (fun _ _ _ => none) noX M 1
abbrev Rt := Int
noncomputable def H (M : Nat) : Hd E Rt := hd0 (X M)
theorem Hok (M : Nat) : (H M).ok (C24 M) M := hd0_ok _
abbrev Qt1 : List Dir := [.r, .r, .l, .r, .k]
abbrev Ht1 := (List api_Feature) → api_Paradigm → Int → Int → Option Rt
abbrev Zt := List Dir → St E → Option Rt
abbrev Ut := St E → Option Rt
noncomputable def s1 (M : Nat) (h1 : Ht1) (featuresa2_0 : (List api_Feature)) (pa0_0 : api_Paradigm) (slota1_0 : Int) (i7_1 : Int) : Option Rt :=
  cond (decide (0 ≤ slota1_0) && decide (slota1_0 < (pa0_0.fSlots.length : Int)))
   (cond (decide (i7_1 < ((pa0_0.fSlots.getD slota1_0.toNat default).length : Int)))
     (cond (decide (0 ≤ slota1_0) && decide (slota1_0 < (pa0_0.fSlots.length : Int)))
       (cond (decide (0 ≤ i7_1) && decide (i7_1 < ((pa0_0.fSlots.getD slota1_0.toNat default).length : Int)))
         (Option.bind (pentaglotref02_Subsumes M (((pa0_0.fSlots.getD slota1_0.toNat default).getD i7_1.toNat default).fWhen) featuresa2_0) fun r37_4 =>
          cond (r37_4)
           (some i7_1)
           (h1 featuresa2_0 pa0_0 slota1_0 (IntKind.i64.wrap (i7_1 + 1))))
         none)
       none)
     (some (-1)))
   none
noncomputable def l1 (M : Nat) : Nat → Ht1
  | 0, _, _, _, _ => none
  | k + 1, featuresa2_0, pa0_0, slota1_0, i7_1 => s1 M (l1 M k) featuresa2_0 pa0_0 slota1_0 i7_1
noncomputable def s (M : Nat) (h1 : Ht1) (pa0_0 : api_Paradigm) (slota1_0 : Int) (featuresa2_0 : (List api_Feature)) : Option Rt :=
  cond (decide (slota1_0 < 0))
   (some (-1))
   (cond (decide ((pa0_0.fSlots.length : Int) ≤ slota1_0))
     (some (-1))
     (h1 featuresa2_0 pa0_0 slota1_0 0))
end pentaglotref10_Chosen
noncomputable def pentaglotref10_Chosen (M : Nat) (pa0_0 : api_Paradigm) (slota1_0 : Int) (featuresa2_0 : (List api_Feature)) : Option Int :=
  pentaglotref10_Chosen.s M (pentaglotref10_Chosen.l1 M M) pa0_0 slota1_0 featuresa2_0
namespace pentaglotref10_Chosen
noncomputable def S1 (featuresa2_0 : (List api_Feature)) (pa0_0 : api_Paradigm) (slota1_0 : Int) (i7_1 : Int) : St E :=
  mkSt 39 39 [(1, .one (.tv (.int .i64 slota1_0))), (2, .one (.tv (.sl (.st .api_Feature) featuresa2_0))), (3, .one (.ptr 3 0)), (7, .one (.tv (.int .i64 i7_1)))] [(3, .cells [.tv (.str pa0_0.fName), .tv (.sl (.st .api_Dimension) pa0_0.fDimensions), .tv (.sl (.sl (.st .api_Affix)) pa0_0.fSlots)])] 0 [] [] false
noncomputable def K (M : Nat) : Cont E Int := kRet (C24 M) Try.f24.results.toList rs ex
noncomputable abbrev zA (M : Nat) (ZL : List Dir → Option (Ut)) (q : List Dir) : Ut := zAt (C24 M) (H M) M 0 ZL body plans (K M) q
noncomputable abbrev lA (M : Nat) (ZL : List Dir → Option (Ut)) (q : List Dir) (k : Nat) : Ut := lpAt (C24 M) (H M) M 0 ZL body plans (K M) q k
noncomputable abbrev gA (M : Nat) (Z : Zt) (q : List Dir) : Ut := seg (C24 M) (H M) 0 Z body plans (K M) q
set_option maxRecDepth 100000
theorem g1 (M : Nat) (Z : Zt) (featuresa2_0 : (List api_Feature)) (pa0_0 : api_Paradigm) (slota1_0 : Int) (i7_1 : Int) : gA M Z Qt1 (S1 featuresa2_0 pa0_0 slota1_0 i7_1) = s1 M
    (fun featuresa2_0 pa0_0 slota1_0 i7_1 => Z Qt1 (S1 featuresa2_0 pa0_0 slota1_0 i7_1)) featuresa2_0 pa0_0 slota1_0 i7_1 := by kernel_rfl
theorem g (M : Nat) (Z : Zt) (pa0_0 : api_Paradigm) (slota1_0 : Int) (featuresa2_0 : (List api_Feature)) : runZ (C24 M) (extZ (C24 M) (H M) 0) Z body plans (start (argHs ps (pa0_0, slota1_0, featuresa2_0)) Try.f24.ntmps 39) (K M) = s M
    (fun featuresa2_0 pa0_0 slota1_0 i7_1 => Z Qt1 (S1 featuresa2_0 pa0_0 slota1_0 i7_1)) pa0_0 slota1_0 featuresa2_0 := by kernel_rfl
theorem el1 (M : Nat) (k : Nat) (featuresa2_0 : (List api_Feature)) (pa0_0 : api_Paradigm) (slota1_0 : Int) (i7_1 : Int) : lA M (zlq Qt1 []) Qt1 k (S1 featuresa2_0 pa0_0 slota1_0 i7_1) = l1 M k featuresa2_0 pa0_0 slota1_0 i7_1 := by
  induction k generalizing featuresa2_0 pa0_0 slota1_0 i7_1 with
  | zero => kernel_rfl
  | succ k ih =>
    refine Eq.trans (b := lA M (zlq Qt1 [lA M (zlq Qt1 []) Qt1 k]) Qt1 (k + 1) (S1 featuresa2_0 pa0_0 slota1_0 i7_1)) (by kernel_rfl) ?_
    refine (seg_loop (Hok M) 0 Qt1 body plans (K M) _ (S1 featuresa2_0 pa0_0 slota1_0 i7_1) (around_zlq _ _ (by kernel_rfl)) (by kernel_rfl) (by kernel_rfl)).trans ?_
    refine (g1 M _ featuresa2_0 pa0_0 slota1_0 i7_1).trans ?_
    have x0 := (funext fun featuresa2_0 => funext fun pa0_0 => funext fun slota1_0 => funext fun i7_1 => Eq.trans (b := lA M (zlq Qt1 []) Qt1 k (S1 featuresa2_0 pa0_0 slota1_0 i7_1)) (by kernel_rfl) (ih featuresa2_0 pa0_0 slota1_0 i7_1) : (fun featuresa2_0 pa0_0 slota1_0 i7_1 => zA M (zlq Qt1 [lA M (zlq Qt1 []) Qt1 k]) Qt1 (S1 featuresa2_0 pa0_0 slota1_0 i7_1)) = l1 M k)
    rw [x0]; rfl
theorem e1 (M : Nat) (featuresa2_0 : (List api_Feature)) (pa0_0 : api_Paradigm) (slota1_0 : Int) (i7_1 : Int) : zA M (zlq Qt1 []) Qt1 (S1 featuresa2_0 pa0_0 slota1_0 i7_1) = l1 M M featuresa2_0 pa0_0 slota1_0 i7_1 :=
  Eq.trans (b := lA M (zlq Qt1 []) Qt1 M (S1 featuresa2_0 pa0_0 slota1_0 i7_1)) (by kernel_rfl) (el1 M M featuresa2_0 pa0_0 slota1_0 i7_1)
theorem run (M : Nat) (pa0_0 : api_Paradigm) (slota1_0 : Int) (featuresa2_0 : (List api_Feature)) : runF (rs := rs) (C24 M) (X M) M body Try.f24.ntmps 39 Try.f24.results.toList plans ps ex (pa0_0, slota1_0, featuresa2_0) = pentaglotref10_Chosen M pa0_0 slota1_0 featuresa2_0 := by
  refine Eq.trans (b := runC (C24 M) (X M) M body plans (start (argHs ps (pa0_0, slota1_0, featuresa2_0)) Try.f24.ntmps 39) (K M)) (by kernel_rfl) ?_
  refine (zrun (Hok M) 0 body plans _ (K M) (fun _ => none) fun _ => rfl).symm.trans ?_
  refine (g M _ pa0_0 slota1_0 featuresa2_0).trans ?_
  have x0 := (funext fun featuresa2_0 => funext fun pa0_0 => funext fun slota1_0 => funext fun i7_1 => Eq.trans (b := zA M (zlq Qt1 []) Qt1 (S1 featuresa2_0 pa0_0 slota1_0 i7_1)) (by kernel_rfl) (e1 M featuresa2_0 pa0_0 slota1_0 i7_1) : (fun featuresa2_0 pa0_0 slota1_0 i7_1 => zA M (fun _ => none) Qt1 (S1 featuresa2_0 pa0_0 slota1_0 i7_1)) = l1 M M)
  rw [x0]; rfl
noncomputable def sig (M : Nat) : Sig E := { ps := ps, rs := rs, ex := ex, fn := fun x => pentaglotref10_Chosen M x.1 x.2.1 x.2.2 }
theorem says (M : Nat) : callable Try.prog 24 = true ∧ ∀ x y, (sig M).fn x = some y → Says Try.prog 24 (sig M) x y := by
  refine ⟨by kernel_rfl, fun x y h => ?_⟩
  refine says_of_run (S := sig M) (C := C24 M) (X := X M) (M := M) (q := 39) (plans := plans) (COk_Try) (SigOk_C24 M) (ItOk_C24 M) (by kernel_rfl) (callOk_ext COk_Try (SigOk_C24 M) (ItOk_C24 M) (by kernel_rfl) inl_ok.ok (RSigOk_C24 M) (fun _ => callOk_none) M 1) (Try.func24) (body := body) (by kernel_rfl) (by kernel_rfl) ?_
  obtain ⟨pa0_0, slota1_0, featuresa2_0⟩ := x
  exact (run M pa0_0 slota1_0 featuresa2_0).trans h
end pentaglotref10_Chosen
end Go.Ai.Par
end
namespace Go.Ai.Par
open Go Go.Ai
variable {M : Nat}

def subsP : List api_Feature → List api_Feature → Bool
  | [], _ => true
  | f :: a, b => match b.dropWhile (ltB · f) with
    | [] => false
    | e :: b' => decide (e = f) && subsP a b'

theorem getF_dropWhile {f : api_Feature} : ∀ {b : List api_Feature}, Asc b → getF b f.fName = getF (b.dropWhile (ltB · f)) f.fName
  | [], _ => rfl
  | e :: b, h => by
    simp only [List.dropWhile_cons]
    cases he : ltB e f with
    | true =>
      simp only [if_true]
      rw [getF_skip he]
      exact getF_dropWhile (List.pairwise_cons.1 h).2
    | false => rfl

theorem asc_dropWhile {f : api_Feature} {b : List api_Feature} (h : Asc b) : Asc (b.dropWhile (ltB · f)) := h.sublist (List.dropWhile_sublist _)

theorem dropWhile_head {f e : api_Feature} {b' : List api_Feature} : ∀ {b : List api_Feature}, b.dropWhile (ltB · f) = e :: b' → ltB e f = false
  | [], h => by cases h
  | x :: b, h => by
    simp only [List.dropWhile_cons] at h
    cases hx : ltB x f with
    | true => rw [hx] at h; exact dropWhile_head (b := b) (by simpa using h)
    | false => rw [hx] at h; simp only [Bool.false_eq_true, if_false, List.cons.injEq] at h; rw [← h.1]; exact hx

theorem subsP_eq : ∀ {a b : List api_Feature}, Asc a → Asc b → subsP a b = subs a b
  | [], b, _, _ => rfl
  | f :: a, b, ha, hb => by
    obtain ⟨ha1, ha2⟩ := List.pairwise_cons.1 ha
    have hg := getF_dropWhile (f := f) hb
    have hall : ∀ g ∈ a, hasF b g = hasF (b.dropWhile (ltB · f)) g := fun g hg => by
      have key : ∀ b : List api_Feature, getF b g.fName = getF (b.dropWhile (ltB · f)) g.fName := by
        intro b
        induction b with
        | nil => rfl
        | cons e b ih =>
          simp only [List.dropWhile_cons]
          cases he : ltB e f with
          | true => simp only [if_true]; rw [getF_skip (bl_trans he (ha1 g hg))]; exact ih
          | false => rfl
      unfold hasF
      rw [key b]
    simp only [subsP, subs, List.all_cons]
    rw [all_congr hall]
    have hbd := asc_dropWhile (f := f) hb
    split
    · rename_i hd
      have : hasF b f = false := by unfold hasF; rw [hg, hd]; rfl
      rw [this]; rfl
    · rename_i e b' hd
      rw [hd] at hbd
      obtain ⟨hb1, hb2⟩ := List.pairwise_cons.1 hbd
      have hef := dropWhile_head hd
      by_cases h : e = f
      · subst h
        have h1 : hasF b e = true := by unfold hasF; rw [hg, hd]; simp [getF]
        rw [h1]
        simp only [decide_true, Bool.true_and]
        rw [subsP_eq ha2 hb2]
        unfold subs
        exact all_congr fun g hg => by unfold hasF; rw [hd, getF_skip (ha1 g hg)]
      · have h1 : hasF b f = false := by
          unfold hasF; rw [hg, hd]
          simp only [getF]
          by_cases hn : e.fName = f.fName
          · rw [if_pos hn]
            simp only [decide_eq_false_iff_not]
            intro hv
            apply h
            cases e; cases f; simp at hn hv; simp [hn, hv]
          · rw [if_neg hn, getF_none fun g hg => ?_]
            have h2 : ltB f e = true := by
              cases h3 : ltB f e with
              | true => rfl
              | false => exact absurd (bl_tri hef h3) hn
            exact bl_trans h2 (hb1 g hg)
        rw [h1]; simp [h]

theorem advance (hM : 1048576 < M) {a b : List api_Feature} (hb : b.length ≤ 1048576) {h1 : List api_Feature → List api_Feature → Int → Int → Option Bool} {x : Nat} (hx : x < 1048576) {f : api_Feature} (hf : a.getD x default = f) :
    ∀ (d k i : Nat) (s : Unit), i + d = b.length → d < k → feature_Subsumes.l2 M h1 k a b x i = (fun (i : Nat) (_ : Unit) => match (b.drop i).dropWhile (ltB · f) with
      | [] => some false
      | e :: b' => cond (decide (e = f)) (h1 a b ((b.length - b'.length : Nat) : Int) ((x + 1 : Nat) : Int)) (some false)) i s :=
  upto (n := b.length) (f := fun k i (_ : Unit) => feature_Subsumes.l2 M h1 k a b x i) (g := fun i _ => match (b.drop i).dropWhile (ltB · f) with
      | [] => some false
      | e :: b' => cond (decide (e = f)) (h1 a b ((b.length - b'.length : Nat) : Int) ((x + 1 : Nat) : Int)) (some false)) (fun k _ => by
    simp (disch := omega) only [feature_Subsumes.l2, feature_Subsumes.s2, feature_Subsumes.j3, feature_Subsumes.s3, ↓cpos, ↓cneg, List.drop_length, List.dropWhile_nil]) (fun k i _ hi ih => by
    have ih := ih ()
    obtain ⟨y, t, h2, h3, h4⟩ := dropCons hi
    have hd : (decide (y.fName = f.fName) && (decide (y.fValue = f.fValue) && true)) = decide (y = f) := by
      rw [Bool.eq_iff_iff]
      cases y; cases f
      simp
    simp (disch := omega) only [feature_Subsumes.l2, feature_Subsumes.s2, feature_Subsumes.j3, feature_Subsumes.s3, ↓cpos, ↓cpos2, ↓cneg, Int.toNat_natCast, h3, hf, wsucc, ih, h2, h4, cnot, List.dropWhile_cons, ltB, hd]
    cases Op.bytesLess y.fName f.fName with
    | true => rfl
    | false =>
      have hlen : b.length - t.length = i + 1 := by rw [← h4, List.length_drop]; omega
      simp only [cond_false, Bool.false_eq_true, if_false, hlen])

theorem feature_Subsumes_eq (hM : 1048576 < M) {a b : List api_Feature} (ha : a.length < 1048576) (hb : b.length ≤ 1048576) : feature_Subsumes M a b = some (subsP a b) := by
  have key : ∀ (d fuel x k : Nat), x + d = a.length → d < fuel → k ≤ b.length → feature_Subsumes.l1 M fuel a b k x = some (subsP (a.drop x) (b.drop k)) := by
    intro d
    induction d with
    | zero =>
      intro fuel x k h hf hk
      obtain ⟨fuel, rfl⟩ := Nat.exists_eq_succ_of_ne_zero (by omega : fuel ≠ 0)
      have e : x = a.length := by omega
      subst e
      simp (disch := omega) only [Nat.succ_eq_add_one, feature_Subsumes.l1, feature_Subsumes.s1, ↓cneg, List.drop_length, subsP]
    | succ d ih =>
      intro fuel x k h hf hk
      obtain ⟨fuel, rfl⟩ := Nat.exists_eq_succ_of_ne_zero (by omega : fuel ≠ 0)
      obtain ⟨f, t, h1, h2, h3⟩ := dropCons (xs := a) (i := x) (by omega)
      simp (disch := omega) only [Nat.succ_eq_add_one, feature_Subsumes.l1, feature_Subsumes.s1, ↓cpos, ↓cpos2, h1, subsP]
      rw [advance hM hb (by omega) h2 (b.length - k) M k () (by omega) (by omega)]
      simp only
      split
      · rfl
      · rename_i e b' hd
        have hlen : b'.length + 1 ≤ (b.drop k).length := by
          have := (List.dropWhile_sublist (fun e => ltB e f) (l := b.drop k)).length_le
          rw [hd] at this
          simpa using this
        rw [List.length_drop] at hlen
        have hs : b.drop (b.length - b'.length) = b' := by
          obtain ⟨pre, hp⟩ := List.dropWhile_suffix (fun e => ltB e f) (l := b.drop k)
          rw [hd] at hp
          refine drop_suffix (p := b.take k ++ pre ++ [e]) ?_
          conv => lhs; rw [← List.take_append_drop k b, ← hp]
          simp
        rw [ih fuel (x + 1) (b.length - b'.length) (by omega) (by omega) (by omega), h3, hs]
        cases decide (e = f) <;> rfl
  have := key a.length M 0 0 (by omega) (by omega) (by omega)
  simp only [List.drop_zero] at this
  exact this

theorem ref02_Has_eq (hM : 1048576 < M) {b : List api_Feature} (hb : b.length ≤ 1048576) (f : api_Feature) : pentaglotref02_Has M b f = some (hasF b f) := by
  simp only [pentaglotref02_Has, pentaglotref02_Has.s, ref02_Index_eq hM hb, Option.bind_some, hasF]
  rcases getF_fst b f.fName with ⟨h1, h2⟩ | ⟨j, h1, h2, h3⟩
  · rw [h1, h2]; rfl
  · rw [h2, h3]
    simp (disch := omega) only [↓cpos, ↓cpos2, Int.toNat_natCast]

theorem ref02_Subsumes_eq (hM : 1048576 < M) {a b : List api_Feature} (ha : a.length ≤ 1048576) (hb : b.length ≤ 1048576) : pentaglotref02_Subsumes M a b = some (subs a b) :=
  over (xs := a) (f := fun k i (_ : Unit) => pentaglotref02_Subsumes.l1 M k a b i) (g := fun r _ => some (r.all (hasF b))) (fun k _ => by
    simp only [pentaglotref02_Subsumes.l1, pentaglotref02_Subsumes.s1, ↓cneg (Int.lt_irrefl _), List.all_nil]) (fun k i x r _ hi hx ih => by
    have ih := ih ()
    simp (disch := omega) only [pentaglotref02_Subsumes.l1, pentaglotref02_Subsumes.s1, ↓cpos, ↓cpos2, Int.toNat_natCast, hx, wsucc, ih, ref02_Has_eq hM hb, Option.bind_some, List.all_cons, cnot]
    cases hasF b x <;> rfl) (by omega) ()

/-! ### Tables -/
theorem slices_Clone_eq {s : List api_Feature} (hs : s.length ≤ 1048576) : slices_Clone_api_Feature_api_Feature M s = some s := by
  simp (disch := first | omega | (simp only [len, len0]; omega)) only [slices_Clone_api_Feature_api_Feature, slices_Clone_api_Feature_api_Feature.s, slices_Clone_api_Feature_api_Feature.j1, slices_Clone_api_Feature_api_Feature.s1, ↓cpos]
  cases s with
  | nil => exact agree_self _
  | cons x s => rfl

def okE (e : feature_entry_int) : Prop := e.fwhen.length < 1048576

theorem matches_eq (hM : 1048576 < M) {t : feature_Table_int} {r : List api_Feature} (hr : r.length ≤ 1048576) (ht : t.fentries.length ≤ 1048576) (he : ∀ e ∈ t.fentries, okE e) :
    feature_Table_int_Matches_1 M t r = some ((t.fentries.filter fun e => subsP e.fwhen r).map (·.fvalue)) :=
  over (xs := t.fentries) (f := fun k i (_ : Unit) => feature_Table_int_Matches_1.l1 M k t r i) (g := fun es _ => some ((es.filter fun e : feature_entry_int => subsP e.fwhen r).map (fun e : feature_entry_int => e.fvalue))) (fun k _ => by
    simp only [feature_Table_int_Matches_1.l1, feature_Table_int_Matches_1.s1, ↓cneg (Int.lt_irrefl _)]; rfl) (fun k i x es _ hi hx ih => by
    have ih := ih ()
    have hw : x.fwhen.length < 1048576 := he x (by rw [← hx]; exact getD_mem hi)
    simp (disch := omega) only [feature_Table_int_Matches_1.l1, feature_Table_int_Matches_1.s1, feature_Table_int_Matches_1.j2, feature_Table_int_Matches_1.s2, ↓cpos, ↓cpos2, Int.toNat_natCast, hx, wsucc, ih, feature_Subsumes_eq hM hw hr, Option.bind_some, List.filter_cons]
    cases subsP x.fwhen r <;> rfl) (by omega) ()

theorem find_eq (hM : 1048576 < M) {t : feature_Table_int} {r : List api_Feature} (hr : r.length ≤ 1048576) (ht : t.fentries.length ≤ 1048576) (he : ∀ e ∈ t.fentries, okE e) :
    feature_Table_int_Find M t r = some (((t.fentries.find? fun e => subsP e.fwhen r).map (·.fvalue)).getD 0, (t.fentries.find? fun e => subsP e.fwhen r).isSome) := by
  obtain ⟨k, rfl⟩ := Nat.exists_eq_succ_of_ne_zero (by omega : M ≠ 0)
  simp only [feature_Table_int_Find, feature_Table_int_Find.s, matches_eq hM hr ht he, Option.bind_some, Nat.succ_eq_add_one, feature_Table_int_Find.l1, feature_Table_int_Find.s1]
  rw [← List.head?_filter]
  cases t.fentries.filter fun e => subsP e.fwhen r <;> rfl

end Go.Ai.Par
/- Contracts of the library's shelf at this program: bits.Len and the sort's closure (written by the kit's lay-plain.mjs). -/
namespace Go.Proofs
open Go.Shelf
def Try.sortF_ren : Go.Shelf.Ren := ⟨fun | 6 => 57 | 15 => 70 | 14 => 69 | 28 => 84 | 29 => 85 | 20 => 76 | 21 => 77 | 22 => 78 | 23 => 79 | 24 => 80 | 25 => 81 | 26 => 82 | 27 => 83 | 46 => 86 | 47 => 87 | 48 => 88 | 49 => 89 | 50 => 90 | 57 => 91 | n => n, fun | 22 => 31 | 24 => 71 | 25 => 92 | 3 => 3 | 39 => 110 | 0 => 0 | 53 => 113 | 55 => 126 | 4 => 4 | 46 => 119 | 45 => 118 | 50 => 79 | 5 => 5 | 9 => 9 | 66 => 127 | 70 => 131 | 76 => 133 | 77 => 134 | n => n, fun | n => n⟩
theorem Try.sortF : Go.Proofs.SlLaysF0.n6 Try.prog Try.sortF_ren := {
  mixed := by kernel_rfl
  f6 := ⟨Try.f57.name, by decide, Try.func57.trans (congrArg some (by kernel_rfl))⟩
  f14 := ⟨Try.f69.name, by decide, Try.func69.trans (congrArg some (by kernel_rfl))⟩
  f15 := Try.func70.trans (congrArg some (by kernel_rfl))
  f20 := ⟨Try.f76.name, by decide, Try.func76.trans (congrArg some (by kernel_rfl))⟩
  f21 := ⟨Try.f77.name, by decide, Try.func77.trans (congrArg some (by kernel_rfl))⟩
  f22 := ⟨Try.f78.name, by decide, Try.func78.trans (congrArg some (by kernel_rfl))⟩
  f23 := ⟨Try.f79.name, by decide, Try.func79.trans (congrArg some (by kernel_rfl))⟩
  f24 := ⟨Try.f80.name, by decide, Try.func80.trans (congrArg some (by kernel_rfl))⟩
  f25 := ⟨Try.f81.name, by decide, Try.func81.trans (congrArg some (by kernel_rfl))⟩
  f26 := ⟨Try.f82.name, by decide, Try.func82.trans (congrArg some (by kernel_rfl))⟩
  f27 := ⟨Try.f83.name, by decide, Try.func83.trans (congrArg some (by kernel_rfl))⟩
  f28 := Try.func84.trans (congrArg some (by kernel_rfl))
  f29 := Try.func85.trans (congrArg some (by kernel_rfl))
  f46 := ⟨Try.f86.name, by decide, Try.func86.trans (congrArg some (by kernel_rfl))⟩
  f47 := Try.func87.trans (congrArg some (by kernel_rfl))
  f48 := Try.func88.trans (congrArg some (by kernel_rfl))
  f49 := ⟨Try.f89.name, by decide, Try.func89.trans (congrArg some (by kernel_rfl))⟩
  f50 := ⟨Try.f90.name, by decide, Try.func90.trans (congrArg some (by kernel_rfl))⟩
  f57 := ⟨Try.f91.name, by decide, Try.func91.trans (congrArg some (by kernel_rfl))⟩
  t0 := Try.underlying0
  a0 := Try.isAgg0
  z0 := Try.sizeOf0
  v0 := Try.zeroValue0
  t3 := Try.underlying3
  a3 := Try.isAgg3
  z3 := Try.sizeOf3
  v3 := Try.zeroValue3
  t4 := Try.underlying4
  a4 := Try.isAgg4
  z4 := Try.sizeOf4
  v4 := Try.zeroValue4
  t5 := Try.underlying5
  a5 := Try.isAgg5
  z5 := Try.sizeOf5
  v5 := Try.zeroValue5
  t9 := Try.underlying9
  a9 := Try.isAgg9
  z9 := Try.sizeOf9
  v9 := Try.zeroValue9
  t22 := Try.underlying31
  a22 := Try.isAgg31
  z22 := Try.sizeOf31
  v22 := Try.zeroValue31
  t25 := Try.underlying92
  a25 := Try.isAgg92
  z25 := Try.sizeOf92
  v25 := Try.zeroValue92
  t39 := Try.underlying110
  a39 := Try.isAgg110
  z39 := Try.sizeOf110
  v39 := Try.zeroValue110
  t45 := Try.underlying118
  a45 := Try.isAgg118
  z45 := Try.sizeOf118
  v45 := Try.zeroValue118
  t46 := Try.underlying119
  a46 := Try.isAgg119
  z46 := Try.sizeOf119
  v46 := Try.zeroValue119
  t50 := Try.underlying79
  a50 := Try.isAgg79
  z50 := Try.sizeOf79
  v50 := Try.zeroValue79
  t53 := Try.underlying113
  a53 := Try.isAgg113
  z53 := Try.sizeOf113
  v53 := Try.zeroValue113
  t55 := Try.underlying126
  a55 := Try.isAgg126
  z55 := Try.sizeOf126
  v55 := Try.zeroValue126
  t66 := Try.underlying127
  a66 := Try.isAgg127
  z66 := Try.sizeOf127
  v66 := Try.zeroValue127
  t70 := Try.underlying131
  a70 := Try.isAgg131
  z70 := Try.sizeOf131
  v70 := Try.zeroValue131
  t76 := Try.underlying133
  a76 := Try.isAgg133
  z76 := Try.sizeOf133
  v76 := Try.zeroValue133
  t77 := Try.underlying134
  a77 := Try.isAgg134
  z77 := Try.sizeOf134
  v77 := Try.zeroValue134 }
def Try.bitsLen2_ren : Go.Shelf.Ren := ⟨fun | 125 => 70 | 128 => 84 | 129 => 85 | n => n, fun | 46 => 110 | 3 => 3 | 51 => 113 | 53 => 126 | 4 => 4 | 5 => 5 | 9 => 9 | n => n, fun | n => n⟩
theorem Try.bitsLen2 : Go.Proofs.Lays.n125 Try.prog Try.bitsLen2_ren := {
  mixed := by kernel_rfl
  f125 := Try.func70.trans (congrArg some (by kernel_rfl))
  f128 := Try.func84.trans (congrArg some (by kernel_rfl))
  f129 := Try.func85.trans (congrArg some (by kernel_rfl))
  t3 := Try.underlying3
  a3 := Try.isAgg3
  z3 := Try.sizeOf3
  v3 := Try.zeroValue3
  t4 := Try.underlying4
  a4 := Try.isAgg4
  z4 := Try.sizeOf4
  v4 := Try.zeroValue4
  t5 := Try.underlying5
  a5 := Try.isAgg5
  z5 := Try.sizeOf5
  v5 := Try.zeroValue5
  t9 := Try.underlying9
  a9 := Try.isAgg9
  z9 := Try.sizeOf9
  v9 := Try.zeroValue9
  t46 := Try.underlying110
  a46 := Try.isAgg110
  z46 := Try.sizeOf110
  v46 := Try.zeroValue110
  t51 := Try.underlying113
  a51 := Try.isAgg113
  z51 := Try.sizeOf113
  v51 := Try.zeroValue113
  t53 := Try.underlying126
  a53 := Try.isAgg126
  z53 := Try.sizeOf126
  v53 := Try.zeroValue126 }
end Go.Proofs
/- slices.SortFunc of features by name: its contract. -/
noncomputable section
namespace Go.Ai.Par
open Go Go.Ai Go.Proofs Go.Lib Go.Sort Go.Shelf Go.RowKit
set_option maxHeartbeats 1000000

theorem isNaN71 (x : ByteArray) (W : World) : Calls Try.prog 71 #[.string x] W fun e w' => e = .returned (.bool false) ∧ w' = W := by
  go_enter Try.func71, Try.ntmps71
  go_wp2
  go_ret
  exact ⟨by simp, rfl⟩

def cmpL (a b : List UInt8) : Int := if Op.bytesLess a b then -1 else if !(Op.bytesLess a b || a == b) then 1 else 0
def cmpS (x y : ByteArray) : Int := cmpL x.toList y.toList
theorem cmpS_mk (a b : List UInt8) : cmpS ⟨a.toArray⟩ ⟨b.toArray⟩ = cmpL a b := by
  unfold cmpS
  rw [ByteArray.toList_eq, ByteArray.toList_eq]

theorem cmp59 (x y : ByteArray) (W : World) : Calls Try.prog 59 #[.string x, .string y] W fun e w' => e = .returned (.int .i64 (cmpS x y)) ∧ w' = W := by
  go_enter Try.func59, Try.ntmps59
  go_wp2_with (go_at_call 71; refine (isNaN71 _ _).mono ?_; rintro e w' ⟨rfl, hw⟩; rw [hw])
  all_goals (go_ret; refine ⟨?_, rfl⟩; unfold cmpS cmpL; simp_all)

theorem closure58 (x1 x2 y1 y2 : ByteArray) (W : World) : Calls Try.prog 58 #[.agg #[.string x1, .string x2], .agg #[.string y1, .string y2]] W fun e w' => e = .returned (.int .i64 (cmpS x1 y1)) ∧ ∃ q os', w' = grow (W.drewN q) os' := by
  have hcon := fun W' => cmp59 x1 y1 W'
  generalize cmpS x1 y1 = r at hcon ⊢
  go_enter Try.func58, Try.ntmps58
  go_wp2_with (go_at_call 59; refine (hcon _).mono ?_; rintro e w' ⟨rfl, rfl⟩)
  go_ret
  exact ⟨rfl, 0, _, by rw [alloc_eq_grow, alloc_eq_grow, grow_grow]; rfl⟩


def encF (x : api_Feature) : List Value := [.string ⟨x.fName.toArray⟩, .string ⟨x.fValue.toArray⟩]
def cmpF (x y : api_Feature) : Int := cmpL x.fName y.fName

theorem size_insInner {α : Type} [Inhabited α] (lt : α → α → Bool) (a : Nat) : ∀ (j : Nat) (d : Array α), (insInner lt a j d).size = d.size
  | 0, d => rfl
  | j + 1, d => by
    simp only [insInner]
    split
    · rw [size_insInner lt a j, size_swp]
    · rfl

theorem size_insOuter {α : Type} [Inhabited α] (lt : α → α → Bool) (a b : Nat) : ∀ (n i : Nat) (d : Array α), b - i = n → (insOuter lt a b i d).size = d.size
  | 0, i, d, h => by rw [insOuter, if_neg (by omega)]
  | n + 1, i, d, h => by rw [insOuter, if_pos (by omega), size_insOuter lt a b n (i + 1) _ (by omega), size_insInner]

def insN {α : Type} [Inhabited α] (lt : α → α → Bool) (a : Nat) : Nat → Nat → Array α → Array α
  | 0, _, d => d
  | n + 1, i, d => insN lt a n (i + 1) (insInner lt a i d)

theorem insOuter_eq {α : Type} [Inhabited α] (lt : α → α → Bool) (a b : Nat) : ∀ (n i : Nat) (d : Array α), b - i = n → insOuter lt a b i d = insN lt a n i d
  | 0, i, d, h => by rw [insOuter, if_neg (by omega)]; rfl
  | n + 1, i, d, h => by rw [insOuter, if_pos (by omega), insOuter_eq lt a b n (i + 1) _ (by omega)]; rfl

/-- Insertion sort by name, as slices.SortFunc does it for at most 12. -/
def sortFeatures (xs : List api_Feature) : Option (List api_Feature) := cond (decide (xs.length ≤ 12)) (some (insN (ltOf cmpF) 0 (xs.toArray.size - 1) 1 xs.toArray).toList) none

variable {fv : Nat → Value} {w w' : World} {F : Fz}

theorem rep_strV {l : List UInt8} {u : Value} (h : Rep (E := E.withFv fv) w F (.str l) u) : u = .string ⟨l.toArray⟩ := by
  cases h with
  | str s => simp

theorem flat_get (d : Array api_Feature) (q : Nat) (h : q < d.size * 2) : (flatK encF 2 d).toList[q]? = some ((encF d[q / 2]!)[q % 2]!) := by
  simp [flatK, h]

theorem row_flat {xs : List api_Feature} {L : List Value} (h : RowRep (E := E.withFv fv) w F (.st .api_Feature) xs L) : L = (flatK encF 2 xs.toArray).toList := by
  have hl : L.length = xs.length * 2 := h.1
  apply List.ext_getElem?
  intro q
  by_cases hq : q < xs.length * 2
  · rw [flat_get _ _ (by simpa using hq)]
    have hi : q / 2 < xs.length := by omega
    have hx : xs[q / 2]? = some xs[q / 2] := List.getElem?_eq_getElem hi
    have hx' : xs.toArray[q / 2]! = xs[q / 2] := by simp [hi]
    rw [hx']
    rcases Nat.mod_two_eq_zero_or_one q with hm | hm
    · obtain ⟨u, h1, h2⟩ := h.2 (q / 2) xs[q / 2] 0 (.str xs[q / 2].fName) hx rfl
      rw [hm]
      have : q / 2 * Ty.size (E.withFv fv) (.st .api_Feature) + 0 = q := by show q / 2 * 2 + 0 = q; omega
      rw [this] at h1
      rw [h1, rep_strV h2]
      rfl
    · obtain ⟨u, h1, h2⟩ := h.2 (q / 2) xs[q / 2] 1 (.str xs[q / 2].fValue) hx rfl
      rw [hm]
      have : q / 2 * Ty.size (E.withFv fv) (.st .api_Feature) + 1 = q := by show q / 2 * 2 + 1 = q; omega
      rw [this] at h1
      rw [h1, rep_strV h2]
      rfl
  · rw [List.getElem?_eq_none (by omega), List.getElem?_eq_none (by simp; omega)]

theorem flat_row (xs : List api_Feature) : RowRep (E := E.withFv fv) w F (.st .api_Feature) xs (flatK encF 2 xs.toArray).toList := by
  refine ⟨by simp; rfl, fun i x c l hx hl => ?_⟩
  have hi : i < xs.length := (List.getElem?_eq_some_iff.1 hx).1
  have hxi : xs.toArray[i]! = (x : api_Feature) := by
    have := (List.getElem?_eq_some_iff.1 hx).2
    rw [getElem!_pos xs.toArray i (by simpa using hi)]
    exact this
  have hl' : ([.str x.fName, .str x.fValue] : List (TV (E.withFv fv)))[c]? = some l := hl
  show ∃ u, (flatK encF 2 xs.toArray).toList[i * 2 + c]? = some u ∧ Rep w F l u
  match c, hl' with
  | 0, hl' =>
    cases hl'
    refine ⟨.string ⟨x.fName.toArray⟩, ?_, ?_⟩
    · rw [flat_get _ _ (by simp; omega), show (i * 2 + 0) / 2 = i by omega, show (i * 2 + 0) % 2 = 0 by omega, hxi]
      rfl
    · have := Rep.str (E := E.withFv fv) (w := w) (F := F) ⟨x.fName.toArray⟩
      simpa using this
  | 1, hl' =>
    cases hl'
    refine ⟨.string ⟨x.fValue.toArray⟩, ?_, ?_⟩
    · rw [flat_get _ _ (by simp; omega), show (i * 2 + 1) / 2 = i by omega, show (i * 2 + 1) % 2 = 1 by omega, hxi]
      rfl
    · have := Rep.str (E := E.withFv fv) (w := w) (F := F) ⟨x.fValue.toArray⟩
      simpa using this
  | c + 2, hl' => simp at hl'

theorem hlen (n : Nat) (W : World) (h : n ≤ 12) : Calls Try.prog 70 #[.int .u64 n] W fun e w' => (∃ l : Int, e = .returned (.int .i64 l)) ∧ w' = W :=
  (Any.bits_Len Try.bitsLen2 n W (by omega) (by omega)).mono fun _ _ ⟨he, hw⟩ => ⟨⟨_, he⟩, hw⟩

theorem ty71 (w : World) : (isAgg 71).run Try.prog w = .ok true w ∧ (Go.sizeOf 71).run Try.prog w = .ok 2 w := by
  obtain ⟨ti, hti, h1, h2⟩ : ∃ ti : TI E, tisE.lookup 71 = some ti ∧ ti.agg = true ∧ ti.size = 2 := ⟨_, rfl, rfl, rfl⟩
  obtain ⟨i, d, hT, _⟩ := tok_of (COk_Try (sig := fun _ => none) (it := fun _ => none) (nt := 0) (r1 := []) (r2 := [])) (t := 71) (ti := ti) hti
  refine ⟨?_, ?_⟩
  · rw [run_isAgg hT.under, hT.agg, h1]
  · rw [run_size hT.info, hT.size, h2]

theorem sort_call (blk cap : Nat) (d : Array api_Feature) (w : World) (hH : HoldsK encF 2 w blk 0 d) (hblk : blk < w.heap.size) (h12 : d.size ≤ 12) :
    Calls Try.prog 57 #[.slice (some ⟨blk, 0, none⟩) d.size cap, .func (.func 58) #[] #[]] w fun e w' => e = .returned (.tuple #[]) ∧ ∃ n os, w' = sortWorldK encF 2 w blk 0 n (insertionSort (ltOf cmpF) d 0 d.size) os := by
  have eg : ∀ args w, (callFunc 58 args).run Try.prog w = .ok (.enter 58 args) w := enters_of Try.func58 (by kernel_rfl) rfl
  exact AnyQ.slices_SortFunc_small Try.sortF 2 (fun w => (ty71 w).1) (fun w => (ty71 w).2) encF (fun _ => rfl) (fun x v hv => by simp [encF] at hv; rcases hv with rfl | rfl <;> rfl) cmpF 58 #[] blk 0 cap d w eg (fun _ _ _ _ x y => by have h := closure58 ⟨x.fName.toArray⟩ ⟨x.fValue.toArray⟩ ⟨y.fName.toArray⟩ ⟨y.fValue.toArray⟩; simp only [cmpS_mk] at h; exact h _) hH hblk h12 hlen

theorem sortFeatures_says : MutSays (E := E.withFv fv) Try.prog 57 58 71 (.st .api_Feature) sortFeatures := by
  refine ⟨by kernel_rfl, ?_⟩
  intro (xs : List api_Feature) (ys : List api_Feature) hxy w base F v L i hi hsz ho hr hF hFv hso hbase
  have hs2 : i.size = 2 := hsz
  unfold sortFeatures at hxy
  cases h12 : decide (xs.length ≤ 12) with
  | false => rw [h12] at hxy; cases hxy
  | true =>
    rw [h12] at hxy
    have h12 : xs.length ≤ 12 := of_decide_eq_true h12
    have hys : ys = (insertionSort (ltOf cmpF) xs.toArray 0 xs.toArray.size).toList := (Option.some.inj hxy).symm.trans (congrArg Array.toList (insOuter_eq (ltOf cmpF) 0 xs.toArray.size _ 1 xs.toArray rfl).symm)
    have hyl : ys.length = xs.length := by
      rw [hys, Array.length_toList]
      exact size_insOuter _ _ _ _ _ _ rfl
    have hya : ys.toArray = insertionSort (ltOf cmpF) xs.toArray 0 xs.toArray.size := by rw [hys, Array.toArray_toList]
    have hL := row_flat hr
    rw [hs2] at ho
    rcases ho.2 with ⟨hv, _⟩ | ⟨g, cap, cur, hv, hb, hg, hnc, hcm, hcs, htake⟩
    · rw [hv] at hso; cases hso
    · subst hv
      have hlt : g < w.heap.size := (Array.getElem?_eq_some_iff.1 hg).1
      have hH : HoldsK encF 2 w g 0 xs.toArray := by
        intro q hq
        have hq' : q < xs.length * 2 := by simpa using hq
        refine ⟨?_, ?_⟩
        · have h1 : L[q]? = some ((encF xs.toArray[q / 2]!)[q % 2]!) := by rw [hL]; exact flat_get _ _ (by simpa using hq')
          have h2 := ho.cells (g := g) rfl q _ h1
          rw [addr_add] at h2
          rw [h2, get_flatK _ _ _ _ (by simpa using hq')]
          rfl
        · simp [World.frozen?, hg]
      have hcall := sort_call g cap xs.toArray w hH hlt (by simpa using h12)
      rw [show xs.toArray.size = xs.length by simp] at hcall
      refine hcall.mono ?_
      rintro e w' ⟨rfl, n, os, rfl⟩
      rw [show insertionSort (ltOf cmpF) xs.toArray 0 xs.length = ys.toArray by rw [hya]; simp]
      have hheap : ∀ k, k < w.heap.size → (sortWorldK encF 2 w g 0 n ys.toArray os).heap[k]? = (w.heap[k]?).map fun o => if g = k then onCells (putCells id 0 (flatK encF 2 ys.toArray)) o else o := by
        intro k hk
        show ((w.heap.modify g (onCells (putCells id 0 (flatK encF 2 ys.toArray)))) ++ os)[k]? = _
        rw [Array.getElem?_append_left (by simpa using hk), Array.getElem?_modify]
        cases w.heap[k]? with
        | none => simp
        | some o => by_cases e : g = k <;> simp [e]
      have hnc : List.length (α := api_Feature) xs ≤ cap := hnc
      have htk : (putCells id 0 (flatK encF 2 ys.toArray) cur).toList.take (ys.length * 2) = (flatK encF 2 ys.toArray).toList := by
        have hc2 : ys.length * 2 ≤ cur.size := by rw [hyl, hcs]; exact Nat.mul_le_mul_right _ hnc
        apply List.ext_getElem?
        intro q
        by_cases hq : q < ys.length * 2
        · rw [List.getElem?_take_of_lt hq, flat_get _ _ (by simpa using hq), Array.getElem?_toList]
          simp only [putCells, Array.getElem?_mapIdx]
          rw [Array.getElem?_eq_getElem (show q < cur.size by omega)]
          simp only [Option.map_some, Nat.zero_le, true_and, Nat.zero_add, Nat.sub_zero, size_flatK, List.size_toArray, hq, if_true, id]
          rw [get_flatK _ _ _ _ (by simpa using hq)]
        · rw [List.getElem?_eq_none (by simp; omega), List.getElem?_eq_none (by simp; omega)]
      have hown : (sortWorldK encF 2 w g 0 n ys.toArray os).ownsRow base 71 2 (.slice (some ⟨g, 0, none⟩) (List.length (α := api_Feature) xs) cap) (List.length (α := api_Feature) ys) (flatK encF 2 ys.toArray).toList := by
        refine ⟨by simp, .inr ⟨g, cap, putCells id 0 (flatK encF 2 ys.toArray) cur, by rw [hyl], hb, ?_, by rw [hyl]; exact hnc, hcm, by simp [putCells, hcs], htk⟩⟩
        rw [hheap g hlt, hg]
        simp [onCells]
      refine ⟨rfl, ⟨rfl, rfl, rfl, ?_, ?_⟩, (flatK encF 2 ys.toArray).toList, ?_, flat_row ys⟩
      · show w.heap.size ≤ ((w.heap.modify g (onCells (putCells id 0 (flatK encF 2 ys.toArray)))) ++ os).size
        simp
      · intro k hk hne
        have hgk : g ≠ k := fun e => hne (by rw [e]; rfl)
        rw [hheap k hk]
        simp [hgk]
      · rw [hs2]
        exact hown

end Go.Ai.Par
end
set_option linter.unusedVariables false
set_option linter.unusedSectionVars false
noncomputable section
namespace Go.Ai.Par
open Go Go.Ai Go.Proofs
noncomputable def sigs56 (M : Nat) : List (Nat × Sig E) := []
noncomputable def rs56 (M : Nat) : List (Nat × Sig E) := []
noncomputable def its56 (M : Nat) : List (Nat × It E) := []
theorem sigs_ok56 (M : Nat) : SigsOk Try.prog (sigs56 M) := SigsOk.nil
theorem rs_ok56 (M : Nat) : SigsOk Try.prog (rs56 M) := SigsOk.nil
theorem its_ok56 (M : Nat) : ItsOk Try.prog (its56 M) := ItsOk.nil
noncomputable def C56 (fv : Nat → Value) (M : Nat) : Ctx (E.withFv fv) := { ti := fun t => (tis (fv := fv)).lookup t, sig := fun f => ((sigs56 M).lookup f).map fun S => S.withFv fv, it := fun f => ((its56 M).lookup f).map fun I => I.withFv fv, nt := 52, rowAt := [15, 17], frzAt := [21] }
theorem SigOk_C56 (fv : Nat → Value) (M : Nat) : SigOk Try.prog (C56 fv M) := (sigs_ok56 M).fv fv
theorem RSigOk_C56 (fv : Nat → Value) (M : Nat) : SigOk Try.prog ({ ti := fun _ => none, sig := fun f => ((rs56 M).lookup f).map fun S => S.withFv fv } : Ctx (E.withFv fv)) := (rs_ok56 M).fv fv
theorem ItOk_C56 (fv : Nat → Value) (M : Nat) : ItOk Try.prog (C56 fv M) := (its_ok56 M).fv fv
namespace feature_All_1_1
class Rec where
  V : (Int × (List api_Feature)) → Option (List ((List api_Feature)))
variable {fv : Nat → Value}
noncomputable def plans : List (Option (Plan Nm)) := [none, none, none, none, none, none, none, some { tmps := [(0, .asis), (1, .asis), (2, .asis), (4, .asis), (27, .asis), (28, .asis), (29, .asis)], boxes := [] }, none, none, none, none, none, none, none, none]
noncomputable abbrev body : Code := bodyOf Try.f56
def ts : List (Ty Nm) := [(.sl (.st .api_Feature))]
def cts : List (Ty Nm) := [(.sl (.st .api_Dimension))]
def ars : List (Ty Nm) := [(.int .i64), (.sl (.st .api_Feature))]
def ks : List CapK := [.val 1, .yld, .self]
noncomputable def inl : List (Nat × Nat × Nat × Inl Nm) := []
theorem inl_ok : InlsOk Try.prog inl := InlsOk.nil
variable [Rec]
noncomputable def X (fv : Nat → Value) (M : Nat) : Ext (E.withFv fv) (List ((List api_Feature)) × Bool) := extMut 57 58 71 (.st .api_Feature) (sortFeatures) (extOf (C56 fv M) (inlOf inl) (fun f => ((rs56 M).lookup f).map fun S => S.withFv fv) (yl01 (E := E.withFv fv) ars ts Rec.V) noX M 1)
abbrev Rt := List ((List api_Feature)) × Bool
noncomputable def H (fv : Nat → Value) (M : Nat) : Hd (E.withFv fv) Rt := hd0 (X fv M)
theorem Hok (fv : Nat → Value) (M : Nat) : (H fv M).ok (C56 fv M) M := hd0_ok _
abbrev Qt1 : List Dir := [.r, .r, .l, .r, .k]
abbrev Ht1 := (List api_Dimension) → (List api_Feature) → Int → Int → Option Rt
abbrev Zt (fv : Nat → Value) := List Dir → St (E.withFv fv) → Option Rt
abbrev Ut (fv : Nat → Value) := St (E.withFv fv) → Option Rt
noncomputable def s1 (M : Nat) (h1 : Ht1) (c0a0_0 : (List api_Dimension)) (chosena1_0 : (List api_Feature)) (ia0_0 : Int) (x29_1 : Int) : Option Rt :=
  cond (decide (x29_1 < (((c0a0_0.getD ia0_0.toNat default).fValues).length : Int)))
   (cond (decide (0 ≤ x29_1) && decide (x29_1 < (((c0a0_0.getD ia0_0.toNat default).fValues).length : Int)))
     (cond (decide (0 ≤ ia0_0) && (decide (ia0_0 ≤ (chosena1_0.length : Int)) && decide (ia0_0 = ia0_0)))
       (cond (decide (0 ≤ ia0_0) && decide (ia0_0 < (c0a0_0.length : Int)))
         (cond (decide (0 < ([api_Feature.mk ((c0a0_0.getD ia0_0.toNat default).fName) (((c0a0_0.getD ia0_0.toNat default).fValues).getD x29_1.toNat default)] : List api_Feature).length) && decide ((chosena1_0.take ia0_0.toNat).length + ([api_Feature.mk ((c0a0_0.getD ia0_0.toNat default).fName) (((c0a0_0.getD ia0_0.toNat default).fValues).getD x29_1.toNat default)] : List api_Feature).length ≤ lim))
           (Option.bind (Rec.V (IntKind.i64.wrap (ia0_0 + 1), (chosena1_0.take ia0_0.toNat) ++ [api_Feature.mk ((c0a0_0.getD ia0_0.toNat default).fName) (((c0a0_0.getD ia0_0.toNat default).fValues).getD x29_1.toNat default)])) fun rv56_6 =>
            emits2 rv56_6
             (cond (!true)
               (some ([], false))
               (h1 c0a0_0 chosena1_0 ia0_0 (IntKind.i64.wrap (x29_1 + 1))))
             (cond (!false)
               (some ([], false))
               (h1 c0a0_0 chosena1_0 ia0_0 (IntKind.i64.wrap (x29_1 + 1)))))
           none)
         none)
       none)
     none)
   (some ([], true))
noncomputable def l1 (M : Nat) : Nat → Ht1
  | 0, _, _, _, _ => none
  | k + 1, c0a0_0, chosena1_0, ia0_0, x29_1 => s1 M (l1 M k) c0a0_0 chosena1_0 ia0_0 x29_1
noncomputable def s (M : Nat) (h1 : Ht1) (ia0_0 : Int) (chosena1_0 : (List api_Feature)) (c0a0_0 : (List api_Dimension)) : Option Rt :=
  cond (decide (ia0_0 = (c0a0_0.length : Int)))
   (cond (decide (([] : List api_Feature).length + chosena1_0.length ≤ lim))
     (Option.bind (sortFeatures (([] : List api_Feature) ++ chosena1_0)) fun ry57_2 =>
      emit2 ry57_2
       (some ([], true))
       (some ([], false)))
     none)
   (cond (decide (0 ≤ ia0_0) && decide (ia0_0 < (c0a0_0.length : Int)))
     (h1 c0a0_0 chosena1_0 ia0_0 0)
     none)
end feature_All_1_1
noncomputable def feature_All_1_1 [feature_All_1_1.Rec] (M : Nat) (ia0_0 : Int) (chosena1_0 : (List api_Feature)) (c0a0_0 : (List api_Dimension)) : Option (List ((List api_Feature)) × Bool) :=
  feature_All_1_1.s M (feature_All_1_1.l1 M M) ia0_0 chosena1_0 c0a0_0
namespace feature_All_1_1
variable [Rec]
variable {fv : Nat → Value}
noncomputable def S1 (c0a0_0 : (List api_Dimension)) (chosena1_0 : (List api_Feature)) (ia0_0 : Int) (x29_1 : Int) : St (E.withFv fv) :=
  mkSt 52 52 [(0, .one (.tv (.int .i64 ia0_0))), (1, .one (.tv (.sl (.st .api_Feature) chosena1_0))), (2, .one (.fptr [.sl (.st .api_Dimension) c0a0_0])), (4, .one (.fptr [.spec 1])), (27, .one (.tv (.sl .str ((c0a0_0.getD ia0_0.toNat default).fValues)))), (28, .one (.tv (.int .i64 (((c0a0_0.getD ia0_0.toNat default).fValues).length : Int)))), (29, .one (.tv (.int .i64 x29_1)))] [] 0 [] [] false
noncomputable def K (M : Nat) : Cont (E.withFv fv) (List ((List api_Feature)) × Bool) := kBool (C56 fv M) Try.f56.results.toList
noncomputable abbrev zA (fv : Nat → Value) (M : Nat) (ZL : List Dir → Option (Ut fv)) (q : List Dir) : Ut fv := zAt (C56 fv M) (H fv M) M 0 ZL body plans (K (fv := fv) M) q
noncomputable abbrev lA (fv : Nat → Value) (M : Nat) (ZL : List Dir → Option (Ut fv)) (q : List Dir) (k : Nat) : Ut fv := lpAt (C56 fv M) (H fv M) M 0 ZL body plans (K (fv := fv) M) q k
noncomputable abbrev gA (fv : Nat → Value) (M : Nat) (Z : Zt fv) (q : List Dir) : Ut fv := seg (C56 fv M) (H fv M) 0 Z body plans (K (fv := fv) M) q
set_option maxRecDepth 100000
theorem g1 (M : Nat) (Z : Zt fv) (c0a0_0 : (List api_Dimension)) (chosena1_0 : (List api_Feature)) (ia0_0 : Int) (x29_1 : Int) : gA fv M Z Qt1 (S1 c0a0_0 chosena1_0 ia0_0 x29_1) = s1 M
    (fun c0a0_0 chosena1_0 ia0_0 x29_1 => Z Qt1 (S1 c0a0_0 chosena1_0 ia0_0 x29_1)) c0a0_0 chosena1_0 ia0_0 x29_1 := by kernel_rfl
theorem g (M : Nat) (Z : Zt fv) (ia0_0 : Int) (chosena1_0 : (List api_Feature)) (c0a0_0 : (List api_Dimension)) : runZ (C56 fv M) (extZ (C56 fv M) (H fv M) 0) Z body plans (start (argHs (E := E.withFv fv) ars (ia0_0, chosena1_0) ++ capHK ks (viewTup (E := E.withFv fv) cts c0a0_0)) Try.f56.ntmps 52) (K (fv := fv) M) = s M
    (fun c0a0_0 chosena1_0 ia0_0 x29_1 => Z Qt1 (S1 c0a0_0 chosena1_0 ia0_0 x29_1)) ia0_0 chosena1_0 c0a0_0 := by kernel_rfl
theorem el1 (M : Nat) (k : Nat) (c0a0_0 : (List api_Dimension)) (chosena1_0 : (List api_Feature)) (ia0_0 : Int) (x29_1 : Int) : lA fv M (zlq Qt1 []) Qt1 k (S1 c0a0_0 chosena1_0 ia0_0 x29_1) = l1 M k c0a0_0 chosena1_0 ia0_0 x29_1 := by
  induction k generalizing c0a0_0 chosena1_0 ia0_0 x29_1 with
  | zero => kernel_rfl
  | succ k ih =>
    refine Eq.trans (b := lA fv M (zlq Qt1 [lA fv M (zlq Qt1 []) Qt1 k]) Qt1 (k + 1) (S1 c0a0_0 chosena1_0 ia0_0 x29_1)) (by kernel_rfl) ?_
    refine (seg_loop (Hok fv M) 0 Qt1 body plans (K (fv := fv) M) _ (S1 c0a0_0 chosena1_0 ia0_0 x29_1) (around_zlq _ _ (by kernel_rfl)) (by kernel_rfl) (by kernel_rfl)).trans ?_
    refine (g1 M _ c0a0_0 chosena1_0 ia0_0 x29_1).trans ?_
    have x0 := (funext fun c0a0_0 => funext fun chosena1_0 => funext fun ia0_0 => funext fun x29_1 => Eq.trans (b := lA fv M (zlq Qt1 []) Qt1 k (S1 c0a0_0 chosena1_0 ia0_0 x29_1)) (by kernel_rfl) (ih c0a0_0 chosena1_0 ia0_0 x29_1) : (fun c0a0_0 chosena1_0 ia0_0 x29_1 => zA fv M (zlq Qt1 [lA fv M (zlq Qt1 []) Qt1 k]) Qt1 (S1 c0a0_0 chosena1_0 ia0_0 x29_1)) = l1 M k)
    rw [x0]; rfl
theorem e1 (M : Nat) (c0a0_0 : (List api_Dimension)) (chosena1_0 : (List api_Feature)) (ia0_0 : Int) (x29_1 : Int) : zA fv M (zlq Qt1 []) Qt1 (S1 c0a0_0 chosena1_0 ia0_0 x29_1) = l1 M M c0a0_0 chosena1_0 ia0_0 x29_1 :=
  Eq.trans (b := lA fv M (zlq Qt1 []) Qt1 M (S1 c0a0_0 chosena1_0 ia0_0 x29_1)) (by kernel_rfl) (el1 M M c0a0_0 chosena1_0 ia0_0 x29_1)
theorem run (M : Nat) (ia0_0 : Int) (chosena1_0 : (List api_Feature)) (c0a0_0 : (List api_Dimension)) : runC (C56 fv M) (X fv M) M body plans (start (argHs (E := E.withFv fv) ars (ia0_0, chosena1_0) ++ capHK ks (viewTup (E := E.withFv fv) cts c0a0_0)) Try.f56.ntmps 52) (K (fv := fv) M) = feature_All_1_1 M ia0_0 chosena1_0 c0a0_0 := by
  refine (zrun (Hok fv M) 0 body plans _ (K (fv := fv) M) (fun _ => none) fun _ => rfl).symm.trans ?_
  refine (g M _ ia0_0 chosena1_0 c0a0_0).trans ?_
  have x0 := (funext fun c0a0_0 => funext fun chosena1_0 => funext fun ia0_0 => funext fun x29_1 => Eq.trans (b := zA fv M (zlq Qt1 []) Qt1 (S1 c0a0_0 chosena1_0 ia0_0 x29_1)) (by kernel_rfl) (e1 M c0a0_0 chosena1_0 ia0_0 x29_1) : (fun c0a0_0 chosena1_0 ia0_0 x29_1 => zA fv M (fun _ => none) Qt1 (S1 c0a0_0 chosena1_0 ia0_0 x29_1)) = l1 M M)
  rw [x0]; rfl
end feature_All_1_1
namespace feature_All_1_1
noncomputable def V (M : Nat) : Nat → (List api_Dimension) → (List api_Dimension) → (Int × (List api_Feature)) → Option (List ((List api_Feature)))
  | 0, _, _, _ => none
  | k + 1, y0, y, x => match @feature_All_1_1 ⟨V M k y y⟩ M x.1 x.2 y0 with
    | some (es, true) => some es
    | _ => none
theorem emx (M : Nat) : ∀ k, EmX (E := E) Try.prog 56 ks cts ars ts (V M k)
  | 0 => ⟨by kernel_rfl, fun l y0 y x es rest B base w fn F vs lb0 lb h => by cases h⟩
  | k + 1 => by
    refine emX_of_run (E := E) (C := fun fv => C56 fv M) (M := M) (q := 52) (plans := plans) (ks := ks) (body := body) (Xy := fun y fv => @X ⟨V M k y y⟩ fv M) (fun fv => COk_Tryv) (fun fv => SigOk_C56 fv M) (fun fv => ItOk_C56 fv M) (by kernel_rfl) (by kernel_rfl) Try.func56 (by kernel_rfl) (fun y0 y x es h fv => ?_) (fun fv l lb y W FW h0 h1 hc B hY hW => ?_)
    · have h1 : @feature_All_1_1 ⟨V M k y y⟩ M x.1 x.2 y0 = some (es, true) := by
        have h2 : (match @feature_All_1_1 ⟨V M k y y⟩ M x.1 x.2 y0 with | some (es, true) => some es | _ => none) = some es := h
        split at h2
        · rename_i e
          cases h2
          exact e
        · cases h2
      obtain ⟨ia0_0, chosena1_0⟩ := x
      exact (@run ⟨V M k y y⟩ fv M ia0_0 chosena1_0 y0).trans h1
    · exact callOk_mut (sortFeatures_says (fv := fv)) (callOk_em COk_Tryv (SigOk_C56 fv M) (ItOk_C56 fv M) (by kernel_rfl) inl_ok.ok (RSigOk_C56 fv M) M 1 (fun _ => callOk_none) (emx M k) h0 h1 hc B hY hW)
end feature_All_1_1
end Go.Ai.Par
end
set_option linter.unusedVariables false
set_option linter.unusedSectionVars false
noncomputable section
namespace Go.Ai.Par
open Go Go.Ai Go.Proofs
noncomputable def sigs54 (M : Nat) : List (Nat × Sig E) := [(55, feature_dimensions.sig M)]
noncomputable def rs54 (M : Nat) : List (Nat × Sig E) := []
noncomputable def its54 (M : Nat) : List (Nat × It E) := []
theorem sigs_ok54 (M : Nat) : SigsOk Try.prog (sigs54 M) := SigsOk.cons (feature_dimensions.says M) (SigsOk.nil)
theorem rs_ok54 (M : Nat) : SigsOk Try.prog (rs54 M) := SigsOk.nil
theorem its_ok54 (M : Nat) : ItsOk Try.prog (its54 M) := ItsOk.nil
noncomputable def C54 (fv : Nat → Value) (M : Nat) : Ctx (E.withFv fv) := { ti := fun t => (tis (fv := fv)).lookup t, sig := fun f => ((sigs54 M).lookup f).map fun S => S.withFv fv, it := fun f => ((its54 M).lookup f).map fun I => I.withFv fv, nt := 10 }
theorem SigOk_C54 (fv : Nat → Value) (M : Nat) : SigOk Try.prog (C54 fv M) := (sigs_ok54 M).fv fv
theorem RSigOk_C54 (fv : Nat → Value) (M : Nat) : SigOk Try.prog ({ ti := fun _ => none, sig := fun f => ((rs54 M).lookup f).map fun S => S.withFv fv } : Ctx (E.withFv fv)) := (rs_ok54 M).fv fv
theorem ItOk_C54 (fv : Nat → Value) (M : Nat) : ItOk Try.prog (C54 fv M) := (its_ok54 M).fv fv
namespace feature_All_1
variable {fv : Nat → Value}
noncomputable def plans : List (Option (Plan Nm)) := [none, none, none, none, none]
noncomputable abbrev body : Code := bodyOf Try.f54
def ts : List (Ty Nm) := [(.sl (.st .api_Feature))]
def cts : List (Ty Nm) := [(.sl (.st .api_Dimension))]
def shape : List Nat := [1]
noncomputable def inl : List (Nat × Nat × Nat × Inl Nm) := []
theorem inl_ok : InlsOk Try.prog inl := InlsOk.nil
noncomputable def X (fv : Nat → Value) (M : Nat) : Ext (E.withFv fv) (List ((List api_Feature))) := extRec (E := E.withFv fv) 56 feature_All_1_1.ks feature_All_1_1.cts feature_All_1_1.ars feature_All_1_1.ts (feature_All_1_1.V M M) (extOf (C54 fv M) (inlOf inl) (fun f => ((rs54 M).lookup f).map fun S => S.withFv fv) (ylOf ts) noX M 1)
abbrev Rt := List ((List api_Feature))
noncomputable def H (fv : Nat → Value) (M : Nat) : Hd (E.withFv fv) Rt := hd0 (X fv M)
theorem Hok (fv : Nat → Value) (M : Nat) : (H fv M).ok (C54 fv M) M := hd0_ok _
abbrev Zt (fv : Nat → Value) := List Dir → St (E.withFv fv) → Option Rt
abbrev Ut (fv : Nat → Value) := St (E.withFv fv) → Option Rt
noncomputable def s (M : Nat) (c0a0_0 : (List api_Dimension)) : Option Rt :=
  Option.bind (feature_dimensions M c0a0_0) fun r5_2 =>
  cond (!r5_2)
   (some [])
   (Option.bind (feature_All_1_1.V M M c0a0_0 c0a0_0 (0, ([] : (List api_Feature)))) fun rv56_3 =>
    emits rv56_3
     (some [])
     (some []))
end feature_All_1
noncomputable def feature_All_1 (M : Nat) (c0a0_0 : (List api_Dimension)) : Option (List ((List api_Feature))) :=
  feature_All_1.s M c0a0_0
namespace feature_All_1
variable {fv : Nat → Value}
noncomputable def K (M : Nat) : Cont (E.withFv fv) (List ((List api_Feature))) := kEnd (C54 fv M) Try.f54.results.toList
set_option maxRecDepth 100000
theorem g (M : Nat) (Z : Zt fv) (c0a0_0 : (List api_Dimension)) : runZ (C54 fv M) (extZ (C54 fv M) (H fv M) 0) Z body plans (start (.one (.tv (.spec 0)) :: capHs shape (viewTup (E := E.withFv fv) cts c0a0_0)) Try.f54.ntmps 10) (K (fv := fv) M) = s M c0a0_0 := by kernel_rfl
theorem run (M : Nat) (c0a0_0 : (List api_Dimension)) : runC (C54 fv M) (X fv M) M body plans (start (.one (.tv (.spec 0)) :: capHs shape (viewTup (E := E.withFv fv) cts c0a0_0)) Try.f54.ntmps 10) (K (fv := fv) M) = feature_All_1 M c0a0_0 := by
  refine (zrun (Hok fv M) 0 body plans _ (K (fv := fv) M) (fun _ => none) fun _ => rfl).symm.trans ?_
  refine (g M _ c0a0_0).trans ?_
  rfl
noncomputable def it (M : Nat) : It E := { ts := ts, cts := cts, shape := shape, fn := fun x => feature_All_1 M x }
theorem says (M : Nat) : ItSays Try.prog 54 (it M) := by
  refine ⟨by kernel_rfl, fun y xs h w0 F0 lb hF hT hc => ?_⟩
  refine seqX_of_run2 (E := E) (ts := ts) (cts := cts) (C := fun fv => C54 fv M) (X := fun fv => X fv M) (M := M) (q := 10) (plans := plans) (y := y) (fun fv => COk_Tryv) (fun fv => SigOk_C54 fv M) (fun fv => ItOk_C54 fv M) (by kernel_rfl) (fun fv l h0 B hB => callOk_rec (feature_All_1_1.emx M M) h0 hB (callOk_yl COk_Tryv (SigOk_C54 fv M) (ItOk_C54 fv M) (by kernel_rfl) inl_ok.ok (RSigOk_C54 fv M) (fun _ => callOk_none) M 1 B hB)) (Try.func54) (body := body) (by kernel_rfl) (fun fv => ?_) hT hc
  exact (run (fv := fv) M y).trans h
end feature_All_1
end Go.Ai.Par
end
set_option linter.unusedVariables false
set_option linter.unusedSectionVars false
noncomputable section
namespace Go.Ai.Par
open Go Go.Ai Go.Proofs
noncomputable def sigs34 (M : Nat) : List (Nat × Sig E) := [(51, pentaglotref02_Dimensions.sig M), (53, pentaglotref02_Put.sig M)]
noncomputable def rs34 (M : Nat) : List (Nat × Sig E) := []
noncomputable def its34 (M : Nat) : List (Nat × It E) := []
theorem sigs_ok34 (M : Nat) : SigsOk Try.prog (sigs34 M) := SigsOk.cons (pentaglotref02_Dimensions.says M) (SigsOk.cons (pentaglotref02_Put.says M) (SigsOk.nil))
theorem rs_ok34 (M : Nat) : SigsOk Try.prog (rs34 M) := SigsOk.nil
theorem its_ok34 (M : Nat) : ItsOk Try.prog (its34 M) := ItsOk.nil
noncomputable def C34 (M : Nat) : Ctx E := { ti := fun t => tisE.lookup t, sig := fun f => (sigs34 M).lookup f, it := fun f => (its34 M).lookup f, nt := 60 }
theorem SigOk_C34 (M : Nat) : SigOk Try.prog (C34 M) := sigs_ok34 M
theorem RSigOk_C34 (M : Nat) : SigOk Try.prog ({ ti := fun _ => none, sig := fun f => (rs34 M).lookup f } : Ctx E) := rs_ok34 M
theorem ItOk_C34 (M : Nat) : ItOk Try.prog (C34 M) := (its_ok34 M).ok
namespace pentaglotref02_All
noncomputable def plans : List (Option (Plan Nm)) := [none, none, none, none, none, none, some { tmps := [(0, .asis), (3, .own (100003, 0, 31) (.sl (.st .api_Feature))), (4, .asis)], boxes := [] }, none, none, none, none, some { tmps := [(0, .asis), (3, .own (100003, 0, 31) (.sl (.st .api_Feature))), (4, .asis), (5, .own (100005, 0, 31) (.sl (.st .api_Feature))), (6, .asis)], boxes := [] }, none, none, none, some { tmps := [(0, .asis), (3, .own (100003, 0, 31) (.sl (.st .api_Feature))), (4, .asis), (5, .own (100005, 0, 31) (.sl (.st .api_Feature))), (6, .asis), (7, .asis)], boxes := [] }, none, none, none, none, none, none, none, none]
noncomputable abbrev body : Code := bodyOf Try.f34
def ps : List (Ty Nm) := [(.sl (.st .api_Dimension))]
def rs : List (Ty Nm) := [(.sl (.sl (.st .api_Feature)))]
def ex : List (Option Nat) := [some 31]
noncomputable def inl : List (Nat × Nat × Nat × Inl Nm) := []
theorem inl_ok : InlsOk Try.prog inl := InlsOk.nil
noncomputable def X (M : Nat) : Ext E (List (List api_Feature)) := extOf (C34 M) (inlOf inl) (fun f => (rs34 M).lookup f) (fun _ _ _ => none) noX M 1
abbrev Rt := (List (List api_Feature))
noncomputable def H (M : Nat) : Hd E Rt := hd0 (X M)
theorem Hok (M : Nat) : (H M).ok (C34 M) M := hd0_ok _
abbrev Qt3 : List Dir := [.r, .r, .r, .l, .r, .k, .L, .r, .l, .k, .r, .l, .r, .k, .L, .r, .l, .k, .r, .k]
abbrev Ht3 := (List api_Dimension) → Int → Int → (List (List api_Feature)) → (List (List api_Feature)) → Int → Option Rt
abbrev Qt2 : List Dir := [.r, .r, .r, .l, .r, .k, .L, .r, .l, .k, .r, .l, .r, .k]
abbrev Ht2 := (List api_Dimension) → Int → (List (List api_Feature)) → (List (List api_Feature)) → Int → Option Rt
abbrev Qt1 : List Dir := [.r, .r, .r, .l, .r, .k]
abbrev Ht1 := (List api_Dimension) → (List (List api_Feature)) → Int → Option Rt
abbrev Zt := List Dir → St E → Option Rt
abbrev Ut := St E → Option Rt
noncomputable def s3 (M : Nat) (h2 : Ht2) (h3 : Ht3) (dimsa0_0 : (List api_Dimension)) (i4_1 : Int) (k6_2 : Int) (out3_1 : (List (List api_Feature))) (next5_3 : (List (List api_Feature))) (j7_3 : Int) : Option Rt :=
  cond (decide (0 ≤ i4_1) && decide (i4_1 < (dimsa0_0.length : Int)))
   (cond (decide (j7_3 < (((dimsa0_0.getD i4_1.toNat default).fValues).length : Int)))
     (cond (decide (0 ≤ k6_2) && decide (k6_2 < (out3_1.length : Int)))
       (cond (decide (0 ≤ i4_1) && decide (i4_1 < (dimsa0_0.length : Int)))
         (cond (decide (0 ≤ i4_1) && decide (i4_1 < (dimsa0_0.length : Int)))
           (cond (decide (0 ≤ j7_3) && decide (j7_3 < (((dimsa0_0.getD i4_1.toNat default).fValues).length : Int)))
             (Option.bind (pentaglotref02_Put M (out3_1.getD k6_2.toNat default) (api_Feature.mk ((dimsa0_0.getD i4_1.toNat default).fName) (((dimsa0_0.getD i4_1.toNat default).fValues).getD j7_3.toNat default))) fun r55_66 =>
              cond (decide (next5_3.length + ([r55_66] : List (List api_Feature)).length ≤ lim))
               (h3 dimsa0_0 i4_1 k6_2 out3_1 (next5_3 ++ [r55_66]) (IntKind.i64.wrap (j7_3 + 1)))
               none)
             none)
           none)
         none)
       none)
     (h2 dimsa0_0 i4_1 out3_1 next5_3 (IntKind.i64.wrap (k6_2 + 1))))
   none
noncomputable def l3 (M : Nat) (h2 : Ht2) : Nat → Ht3
  | 0, _, _, _, _, _, _ => none
  | k + 1, dimsa0_0, i4_1, k6_2, out3_1, next5_3, j7_3 => s3 M h2 (l3 M h2 k) dimsa0_0 i4_1 k6_2 out3_1 next5_3 j7_3
noncomputable def s2 (M : Nat) (h1 : Ht1) (h3 : Ht3) (dimsa0_0 : (List api_Dimension)) (i4_1 : Int) (out3_1 : (List (List api_Feature))) (next5_2 : (List (List api_Feature))) (k6_2 : Int) : Option Rt :=
  cond (decide (k6_2 < (out3_1.length : Int)))
   (h3 dimsa0_0 i4_1 k6_2 out3_1 next5_2 0)
   (h1 dimsa0_0 next5_2 (IntKind.i64.wrap (i4_1 + 1)))
noncomputable def l2 (M : Nat) (h1 : Ht1) : Nat → Ht2
  | 0, _, _, _, _, _ => none
  | k + 1, dimsa0_0, i4_1, out3_1, next5_2, k6_2 => s2 M h1 (l3 M (l2 M h1 k) M) dimsa0_0 i4_1 out3_1 next5_2 k6_2
noncomputable def s1 (M : Nat) (h2 : Ht2) (dimsa0_0 : (List api_Dimension)) (out3_1 : (List (List api_Feature))) (i4_1 : Int) : Option Rt :=
  cond (decide (i4_1 < (dimsa0_0.length : Int)))
   (h2 dimsa0_0 i4_1 out3_1 ([] : (List (List api_Feature))) 0)
   (some out3_1)
noncomputable def l1 (M : Nat) : Nat → Ht1
  | 0, _, _, _ => none
  | k + 1, dimsa0_0, out3_1, i4_1 => s1 M (l2 M (l1 M k) M) dimsa0_0 out3_1 i4_1
noncomputable def s (M : Nat) (h1 : Ht1) (dimsa0_0 : (List api_Dimension)) : Option Rt :=
  Option.bind (pentaglotref02_Dimensions M dimsa0_0) fun r9_2 =>
  cond (!r9_2)
   (some [])
   (h1 dimsa0_0 ([[]]) 0)
end pentaglotref02_All
noncomputable def pentaglotref02_All (M : Nat) (dimsa0_0 : (List api_Dimension)) : Option (List (List api_Feature)) :=
  pentaglotref02_All.s M (pentaglotref02_All.l1 M M) dimsa0_0
namespace pentaglotref02_All
noncomputable def S3 (dimsa0_0 : (List api_Dimension)) (i4_1 : Int) (k6_2 : Int) (out3_1 : (List (List api_Feature))) (next5_3 : (List (List api_Feature))) (j7_3 : Int) : St E :=
  mkSt 60 60 [(0, .one (.tv (.sl (.st .api_Dimension) dimsa0_0))), (3, .one (.tok (100003, 0, 31) (.sl (.st .api_Feature)) out3_1)), (4, .one (.tv (.int .i64 i4_1))), (5, .one (.tok (100005, 0, 31) (.sl (.st .api_Feature)) next5_3)), (6, .one (.tv (.int .i64 k6_2))), (7, .one (.tv (.int .i64 j7_3)))] [] 0 [] [] false
noncomputable def S2 (dimsa0_0 : (List api_Dimension)) (i4_1 : Int) (out3_1 : (List (List api_Feature))) (next5_2 : (List (List api_Feature))) (k6_2 : Int) : St E :=
  mkSt 60 60 [(0, .one (.tv (.sl (.st .api_Dimension) dimsa0_0))), (3, .one (.tok (100003, 0, 31) (.sl (.st .api_Feature)) out3_1)), (4, .one (.tv (.int .i64 i4_1))), (5, .one (.tok (100005, 0, 31) (.sl (.st .api_Feature)) next5_2)), (6, .one (.tv (.int .i64 k6_2)))] [] 0 [] [] false
noncomputable def S1 (dimsa0_0 : (List api_Dimension)) (out3_1 : (List (List api_Feature))) (i4_1 : Int) : St E :=
  mkSt 60 60 [(0, .one (.tv (.sl (.st .api_Dimension) dimsa0_0))), (3, .one (.tok (100003, 0, 31) (.sl (.st .api_Feature)) out3_1)), (4, .one (.tv (.int .i64 i4_1)))] [] 0 [] [] false
noncomputable def K (M : Nat) : Cont E (List (List api_Feature)) := kRet (C34 M) Try.f34.results.toList rs ex
noncomputable abbrev zA (M : Nat) (ZL : List Dir → Option (Ut)) (q : List Dir) : Ut := zAt (C34 M) (H M) M 0 ZL body plans (K M) q
noncomputable abbrev lA (M : Nat) (ZL : List Dir → Option (Ut)) (q : List Dir) (k : Nat) : Ut := lpAt (C34 M) (H M) M 0 ZL body plans (K M) q k
noncomputable abbrev gA (M : Nat) (Z : Zt) (q : List Dir) : Ut := seg (C34 M) (H M) 0 Z body plans (K M) q
set_option maxRecDepth 100000
theorem g3 (M : Nat) (Z : Zt) (dimsa0_0 : (List api_Dimension)) (i4_1 : Int) (k6_2 : Int) (out3_1 : (List (List api_Feature))) (next5_3 : (List (List api_Feature))) (j7_3 : Int) : gA M Z Qt3 (S3 dimsa0_0 i4_1 k6_2 out3_1 next5_3 j7_3) = s3 M
    (fun dimsa0_0 i4_1 out3_1 next5_2 k6_2 => Z Qt2 (S2 dimsa0_0 i4_1 out3_1 next5_2 k6_2))
    (fun dimsa0_0 i4_1 k6_2 out3_1 next5_3 j7_3 => Z Qt3 (S3 dimsa0_0 i4_1 k6_2 out3_1 next5_3 j7_3)) dimsa0_0 i4_1 k6_2 out3_1 next5_3 j7_3 := by kernel_rfl
theorem g2 (M : Nat) (Z : Zt) (dimsa0_0 : (List api_Dimension)) (i4_1 : Int) (out3_1 : (List (List api_Feature))) (next5_2 : (List (List api_Feature))) (k6_2 : Int) : gA M Z Qt2 (S2 dimsa0_0 i4_1 out3_1 next5_2 k6_2) = s2 M
    (fun dimsa0_0 out3_1 i4_1 => Z Qt1 (S1 dimsa0_0 out3_1 i4_1))
    (fun dimsa0_0 i4_1 k6_2 out3_1 next5_3 j7_3 => Z Qt3 (S3 dimsa0_0 i4_1 k6_2 out3_1 next5_3 j7_3)) dimsa0_0 i4_1 out3_1 next5_2 k6_2 := by kernel_rfl
theorem g1 (M : Nat) (Z : Zt) (dimsa0_0 : (List api_Dimension)) (out3_1 : (List (List api_Feature))) (i4_1 : Int) : gA M Z Qt1 (S1 dimsa0_0 out3_1 i4_1) = s1 M
    (fun dimsa0_0 i4_1 out3_1 next5_2 k6_2 => Z Qt2 (S2 dimsa0_0 i4_1 out3_1 next5_2 k6_2)) dimsa0_0 out3_1 i4_1 := by kernel_rfl
theorem g (M : Nat) (Z : Zt) (dimsa0_0 : (List api_Dimension)) : runZ (C34 M) (extZ (C34 M) (H M) 0) Z body plans (start (argHs ps dimsa0_0) Try.f34.ntmps 60) (K M) = s M
    (fun dimsa0_0 out3_1 i4_1 => Z Qt1 (S1 dimsa0_0 out3_1 i4_1)) dimsa0_0 := by kernel_rfl
theorem el3 (M : Nat) (Z1 : Ut) (Z2 : Ut) (h2 : Ht2) (hZ2 : ∀ (dimsa0_0 : (List api_Dimension)) (i4_1 : Int) (out3_1 : (List (List api_Feature))) (next5_2 : (List (List api_Feature))) (k6_2 : Int), Z2 (S2 dimsa0_0 i4_1 out3_1 next5_2 k6_2) = h2 dimsa0_0 i4_1 out3_1 next5_2 k6_2) (k : Nat) (dimsa0_0 : (List api_Dimension)) (i4_1 : Int) (k6_2 : Int) (out3_1 : (List (List api_Feature))) (next5_3 : (List (List api_Feature))) (j7_3 : Int) : lA M (zlq Qt3 [Z1, Z2]) Qt3 k (S3 dimsa0_0 i4_1 k6_2 out3_1 next5_3 j7_3) = l3 M h2 k dimsa0_0 i4_1 k6_2 out3_1 next5_3 j7_3 := by
  induction k generalizing dimsa0_0 i4_1 k6_2 out3_1 next5_3 j7_3 with
  | zero => kernel_rfl
  | succ k ih =>
    refine Eq.trans (b := lA M (zlq Qt3 [Z1, Z2, lA M (zlq Qt3 [Z1, Z2]) Qt3 k]) Qt3 (k + 1) (S3 dimsa0_0 i4_1 k6_2 out3_1 next5_3 j7_3)) (by kernel_rfl) ?_
    refine (seg_loop (Hok M) 0 Qt3 body plans (K M) _ (S3 dimsa0_0 i4_1 k6_2 out3_1 next5_3 j7_3) (around_zlq _ _ (by kernel_rfl)) (by kernel_rfl) (by kernel_rfl)).trans ?_
    refine (g3 M _ dimsa0_0 i4_1 k6_2 out3_1 next5_3 j7_3).trans ?_
    have x0 := (funext fun dimsa0_0 => funext fun i4_1 => funext fun out3_1 => funext fun next5_2 => funext fun k6_2 => Eq.trans (b := Z2 (S2 dimsa0_0 i4_1 out3_1 next5_2 k6_2)) (by kernel_rfl) (hZ2 dimsa0_0 i4_1 out3_1 next5_2 k6_2) : (fun dimsa0_0 i4_1 out3_1 next5_2 k6_2 => zA M (zlq Qt3 [Z1, Z2, lA M (zlq Qt3 [Z1, Z2]) Qt3 k]) Qt2 (S2 dimsa0_0 i4_1 out3_1 next5_2 k6_2)) = h2)
    have x1 := (funext fun dimsa0_0 => funext fun i4_1 => funext fun k6_2 => funext fun out3_1 => funext fun next5_3 => funext fun j7_3 => Eq.trans (b := lA M (zlq Qt3 [Z1, Z2]) Qt3 k (S3 dimsa0_0 i4_1 k6_2 out3_1 next5_3 j7_3)) (by kernel_rfl) (ih dimsa0_0 i4_1 k6_2 out3_1 next5_3 j7_3) : (fun dimsa0_0 i4_1 k6_2 out3_1 next5_3 j7_3 => zA M (zlq Qt3 [Z1, Z2, lA M (zlq Qt3 [Z1, Z2]) Qt3 k]) Qt3 (S3 dimsa0_0 i4_1 k6_2 out3_1 next5_3 j7_3)) = l3 M h2 k)
    rw [x0, x1]; rfl
theorem e3 (M : Nat) (Z1 : Ut) (Z2 : Ut) (h2 : Ht2) (hZ2 : ∀ (dimsa0_0 : (List api_Dimension)) (i4_1 : Int) (out3_1 : (List (List api_Feature))) (next5_2 : (List (List api_Feature))) (k6_2 : Int), Z2 (S2 dimsa0_0 i4_1 out3_1 next5_2 k6_2) = h2 dimsa0_0 i4_1 out3_1 next5_2 k6_2) (dimsa0_0 : (List api_Dimension)) (i4_1 : Int) (k6_2 : Int) (out3_1 : (List (List api_Feature))) (next5_3 : (List (List api_Feature))) (j7_3 : Int) : zA M (zlq Qt3 [Z1, Z2]) Qt3 (S3 dimsa0_0 i4_1 k6_2 out3_1 next5_3 j7_3) = l3 M h2 M dimsa0_0 i4_1 k6_2 out3_1 next5_3 j7_3 :=
  Eq.trans (b := lA M (zlq Qt3 [Z1, Z2]) Qt3 M (S3 dimsa0_0 i4_1 k6_2 out3_1 next5_3 j7_3)) (by kernel_rfl) (el3 M Z1 Z2 h2 hZ2 M dimsa0_0 i4_1 k6_2 out3_1 next5_3 j7_3)
theorem el2 (M : Nat) (Z1 : Ut) (h1 : Ht1) (hZ1 : ∀ (dimsa0_0 : (List api_Dimension)) (out3_1 : (List (List api_Feature))) (i4_1 : Int), Z1 (S1 dimsa0_0 out3_1 i4_1) = h1 dimsa0_0 out3_1 i4_1) (k : Nat) (dimsa0_0 : (List api_Dimension)) (i4_1 : Int) (out3_1 : (List (List api_Feature))) (next5_2 : (List (List api_Feature))) (k6_2 : Int) : lA M (zlq Qt2 [Z1]) Qt2 k (S2 dimsa0_0 i4_1 out3_1 next5_2 k6_2) = l2 M h1 k dimsa0_0 i4_1 out3_1 next5_2 k6_2 := by
  induction k generalizing dimsa0_0 i4_1 out3_1 next5_2 k6_2 with
  | zero => kernel_rfl
  | succ k ih =>
    refine Eq.trans (b := lA M (zlq Qt2 [Z1, lA M (zlq Qt2 [Z1]) Qt2 k]) Qt2 (k + 1) (S2 dimsa0_0 i4_1 out3_1 next5_2 k6_2)) (by kernel_rfl) ?_
    refine (seg_loop (Hok M) 0 Qt2 body plans (K M) _ (S2 dimsa0_0 i4_1 out3_1 next5_2 k6_2) (around_zlq _ _ (by kernel_rfl)) (by kernel_rfl) (by kernel_rfl)).trans ?_
    refine (g2 M _ dimsa0_0 i4_1 out3_1 next5_2 k6_2).trans ?_
    have x0 := (funext fun dimsa0_0 => funext fun out3_1 => funext fun i4_1 => Eq.trans (b := Z1 (S1 dimsa0_0 out3_1 i4_1)) (by kernel_rfl) (hZ1 dimsa0_0 out3_1 i4_1) : (fun dimsa0_0 out3_1 i4_1 => zA M (zlq Qt2 [Z1, lA M (zlq Qt2 [Z1]) Qt2 k]) Qt1 (S1 dimsa0_0 out3_1 i4_1)) = h1)
    have x1 := (funext fun dimsa0_0 => funext fun i4_1 => funext fun k6_2 => funext fun out3_1 => funext fun next5_3 => funext fun j7_3 => Eq.trans (b := zA M (zlq Qt3 [Z1, (lA M (zlq Qt2 [Z1]) Qt2 k)]) Qt3 (S3 dimsa0_0 i4_1 k6_2 out3_1 next5_3 j7_3)) (by kernel_rfl) (e3 M Z1 (lA M (zlq Qt2 [Z1]) Qt2 k) (l2 M h1 k) (fun dimsa0_0 i4_1 out3_1 next5_2 k6_2 => ih dimsa0_0 i4_1 out3_1 next5_2 k6_2) dimsa0_0 i4_1 k6_2 out3_1 next5_3 j7_3) : (fun dimsa0_0 i4_1 k6_2 out3_1 next5_3 j7_3 => zA M (zlq Qt2 [Z1, lA M (zlq Qt2 [Z1]) Qt2 k]) Qt3 (S3 dimsa0_0 i4_1 k6_2 out3_1 next5_3 j7_3)) = l3 M (l2 M h1 k) M)
    rw [x0, x1]; rfl
theorem e2 (M : Nat) (Z1 : Ut) (h1 : Ht1) (hZ1 : ∀ (dimsa0_0 : (List api_Dimension)) (out3_1 : (List (List api_Feature))) (i4_1 : Int), Z1 (S1 dimsa0_0 out3_1 i4_1) = h1 dimsa0_0 out3_1 i4_1) (dimsa0_0 : (List api_Dimension)) (i4_1 : Int) (out3_1 : (List (List api_Feature))) (next5_2 : (List (List api_Feature))) (k6_2 : Int) : zA M (zlq Qt2 [Z1]) Qt2 (S2 dimsa0_0 i4_1 out3_1 next5_2 k6_2) = l2 M h1 M dimsa0_0 i4_1 out3_1 next5_2 k6_2 :=
  Eq.trans (b := lA M (zlq Qt2 [Z1]) Qt2 M (S2 dimsa0_0 i4_1 out3_1 next5_2 k6_2)) (by kernel_rfl) (el2 M Z1 h1 hZ1 M dimsa0_0 i4_1 out3_1 next5_2 k6_2)
theorem el1 (M : Nat) (k : Nat) (dimsa0_0 : (List api_Dimension)) (out3_1 : (List (List api_Feature))) (i4_1 : Int) : lA M (zlq Qt1 []) Qt1 k (S1 dimsa0_0 out3_1 i4_1) = l1 M k dimsa0_0 out3_1 i4_1 := by
  induction k generalizing dimsa0_0 out3_1 i4_1 with
  | zero => kernel_rfl
  | succ k ih =>
    refine Eq.trans (b := lA M (zlq Qt1 [lA M (zlq Qt1 []) Qt1 k]) Qt1 (k + 1) (S1 dimsa0_0 out3_1 i4_1)) (by kernel_rfl) ?_
    refine (seg_loop (Hok M) 0 Qt1 body plans (K M) _ (S1 dimsa0_0 out3_1 i4_1) (around_zlq _ _ (by kernel_rfl)) (by kernel_rfl) (by kernel_rfl)).trans ?_
    refine (g1 M _ dimsa0_0 out3_1 i4_1).trans ?_
    have x0 := (funext fun dimsa0_0 => funext fun i4_1 => funext fun out3_1 => funext fun next5_2 => funext fun k6_2 => Eq.trans (b := zA M (zlq Qt2 [(lA M (zlq Qt1 []) Qt1 k)]) Qt2 (S2 dimsa0_0 i4_1 out3_1 next5_2 k6_2)) (by kernel_rfl) (e2 M (lA M (zlq Qt1 []) Qt1 k) (l1 M k) (fun dimsa0_0 out3_1 i4_1 => ih dimsa0_0 out3_1 i4_1) dimsa0_0 i4_1 out3_1 next5_2 k6_2) : (fun dimsa0_0 i4_1 out3_1 next5_2 k6_2 => zA M (zlq Qt1 [lA M (zlq Qt1 []) Qt1 k]) Qt2 (S2 dimsa0_0 i4_1 out3_1 next5_2 k6_2)) = l2 M (l1 M k) M)
    rw [x0]; rfl
theorem e1 (M : Nat) (dimsa0_0 : (List api_Dimension)) (out3_1 : (List (List api_Feature))) (i4_1 : Int) : zA M (zlq Qt1 []) Qt1 (S1 dimsa0_0 out3_1 i4_1) = l1 M M dimsa0_0 out3_1 i4_1 :=
  Eq.trans (b := lA M (zlq Qt1 []) Qt1 M (S1 dimsa0_0 out3_1 i4_1)) (by kernel_rfl) (el1 M M dimsa0_0 out3_1 i4_1)
theorem run (M : Nat) (dimsa0_0 : (List api_Dimension)) : runF (rs := rs) (C34 M) (X M) M body Try.f34.ntmps 60 Try.f34.results.toList plans ps ex dimsa0_0 = pentaglotref02_All M dimsa0_0 := by
  refine Eq.trans (b := runC (C34 M) (X M) M body plans (start (argHs ps dimsa0_0) Try.f34.ntmps 60) (K M)) (by kernel_rfl) ?_
  refine (zrun (Hok M) 0 body plans _ (K M) (fun _ => none) fun _ => rfl).symm.trans ?_
  refine (g M _ dimsa0_0).trans ?_
  have x0 := (funext fun dimsa0_0 => funext fun out3_1 => funext fun i4_1 => Eq.trans (b := zA M (zlq Qt1 []) Qt1 (S1 dimsa0_0 out3_1 i4_1)) (by kernel_rfl) (e1 M dimsa0_0 out3_1 i4_1) : (fun dimsa0_0 out3_1 i4_1 => zA M (fun _ => none) Qt1 (S1 dimsa0_0 out3_1 i4_1)) = l1 M M)
  rw [x0]; rfl
noncomputable def sig (M : Nat) : Sig E := { ps := ps, rs := rs, ex := ex, fn := fun x => pentaglotref02_All M x }
theorem says (M : Nat) : callable Try.prog 34 = true ∧ ∀ x y, (sig M).fn x = some y → Says Try.prog 34 (sig M) x y := by
  refine ⟨by kernel_rfl, fun x y h => ?_⟩
  refine says_of_run (S := sig M) (C := C34 M) (X := X M) (M := M) (q := 60) (plans := plans) (COk_Try) (SigOk_C34 M) (ItOk_C34 M) (by kernel_rfl) (callOk_ext COk_Try (SigOk_C34 M) (ItOk_C34 M) (by kernel_rfl) inl_ok.ok (RSigOk_C34 M) (fun _ => callOk_none) M 1) (Try.func34) (body := body) (by kernel_rfl) (by kernel_rfl) ?_
  exact (run M x).trans h
end pentaglotref02_All
end Go.Ai.Par
end
namespace Go.Ai.Par
open Go Go.Ai Go.Sort Go.Shelf Go.Proofs Go.Lib Go.RowKit
variable {M : Nat}

/-! ### Insertion sort on lists -/
def insRev {α : Type} (f : α → α → Bool) (x : α) : List α → List α → List α
  | [], post => x :: post
  | y :: r, post => cond (f x y) (insRev f x r (y :: post)) ((y :: r).reverse ++ x :: post)

theorem insRev_post {α : Type} (f : α → α → Bool) (x : α) : ∀ (r post : List α), insRev f x r post = insRev f x r [] ++ post
  | [], post => rfl
  | y :: r, post => by
    simp only [insRev]
    cases f x y with
    | true => simp only [cond_true]; rw [insRev_post f x r (y :: post), insRev_post f x r [y]]; simp
    | false => simp

theorem insInner_list {α : Type} [Inhabited α] (f : α → α → Bool) (x : α) : ∀ (r post : List α), insInner f 0 r.length (r.reverse ++ x :: post).toArray = (insRev f x r post).toArray
  | [], post => rfl
  | y :: r, post => by
    have hn : (y :: r).length = r.length + 1 := rfl
    rw [hn]
    simp only [insInner, insRev]
    have e1 : ((y :: r).reverse ++ x :: post).toArray[r.length + 1]! = x := by
      have : ((y :: r).reverse ++ x :: post)[r.length + 1]? = some x := by rw [List.getElem?_append_right (by simp)]; simp
      simp [this]
    have e2 : ((y :: r).reverse ++ x :: post).toArray[r.length]! = y := by
      have : ((y :: r).reverse ++ x :: post)[r.length]? = some y := by rw [List.getElem?_append_left (by simp)]; simp
      simp [this]
    rw [e1, e2]
    have e3 : (decide (r.length + 1 > 0) && f x y) = f x y := by simp
    rw [e3]
    cases hf : f x y with
    | false => simp
    | true =>
      simp only [if_true, cond_true]
      rw [← insInner_list f x r (y :: post)]
      congr 1
      unfold swp
      rw [e1, e2]
      apply Array.ext'
      simp only [List.setIfInBounds_toArray]
      have h1 : ((y :: r).reverse ++ x :: post).set (r.length + 1) y = (y :: r).reverse ++ y :: post := by
        rw [List.set_append_right _ _ (by simp)]; simp
      rw [h1]
      have h2 : (y :: r).reverse ++ y :: post = r.reverse ++ y :: y :: post := by simp
      rw [h2, List.set_append_right _ _ (by simp)]
      simp

theorem insRev_length {α : Type} (f : α → α → Bool) (x : α) : ∀ (r post : List α), (insRev f x r post).length = r.length + post.length + 1
  | [], post => by simp [insRev]
  | y :: r, post => by
    simp only [insRev]
    cases f x y with
    | true => simp only [cond_true, insRev_length f x r (y :: post), List.length_cons]; omega
    | false => simp; omega

def sortL {α : Type} (f : α → α → Bool) (acc : List α) : List α → List α
  | [] => acc
  | x :: r => sortL f (insRev f x acc.reverse []) r

theorem insN_list {α : Type} [Inhabited α] (f : α → α → Bool) : ∀ (rest acc : List α), insN f 0 rest.length acc.length (acc ++ rest).toArray = (sortL f acc rest).toArray
  | [], acc => by simp [insN, sortL]
  | x :: rest, acc => by
    simp only [List.length_cons, insN, sortL]
    have h := insInner_list f x acc.reverse rest
    rw [List.reverse_reverse, List.length_reverse] at h
    rw [h, insRev_post]
    have hl : (insRev f x acc.reverse []).length = acc.length + 1 := by rw [insRev_length]; simp
    rw [← hl]
    exact insN_list f rest _

def sortF (xs : List api_Feature) : List api_Feature := sortL (ltOf cmpF) [] xs

theorem sortFeatures_eq {xs : List api_Feature} (h : xs.length ≤ 12) : sortFeatures xs = some (sortF xs) := by
  unfold sortFeatures
  rw [cpos h]
  cases xs with
  | nil => rfl
  | cons x xs =>
    have := insN_list (ltOf cmpF) xs [x]
    simp only [List.length_singleton, List.singleton_append] at this
    simp only [List.size_toArray, List.length_cons, Nat.add_sub_cancel]
    rw [this]
    rfl

theorem ltOf_cmpF (x y : api_Feature) : ltOf cmpF x y = ltB x y := by
  unfold ltOf cmpF cmpL ltB
  cases Op.bytesLess x.fName y.fName with
  | true => rfl
  | false => simp only [Bool.false_eq_true, if_false]; split <;> rfl

theorem put_append {x : api_Feature} : ∀ {a b : List api_Feature}, (∀ e ∈ a, ltB e x = true) → put (a ++ b) x = a ++ put b x
  | [], b, _ => rfl
  | e :: a, b, h => by
    simp only [List.cons_append, put, h e (by simp), cond_true]
    rw [put_append fun e he => h e (List.mem_cons_of_mem _ he)]

theorem put_first {x : api_Feature} : ∀ {b : List api_Feature}, (∀ e ∈ b, ltB x e = true) → put b x = x :: b
  | [], _ => rfl
  | e :: b, h => put_front b (h e (by simp))

/-- Insertion from behind is insertion from the front, in a record without the name. -/
theorem insRev_put {x : api_Feature} : ∀ {r post : List api_Feature}, Asc (r.reverse ++ post) → (∀ e ∈ r, e.fName ≠ x.fName) → (∀ e ∈ post, ltB x e = true) → insRev (ltOf cmpF) x r post = put (r.reverse ++ post) x
  | [], post, _, _, hp => (put_first hp).symm
  | y :: r, post, ha, hn, hp => by
    simp only [insRev, ltOf_cmpF]
    cases hxy : ltB x y with
    | true =>
      simp only [cond_true]
      rw [insRev_put (r := r) (post := y :: post) (by simpa using ha) (fun e he => hn e (List.mem_cons_of_mem _ he)) (fun e he => by
        rcases List.mem_cons.1 he with rfl | he
        · exact hxy
        · exact hp e he)]
      simp
    | false =>
      simp only [cond_false]
      have hyx : ltB y x = true := by
        cases h : ltB y x with
        | true => rfl
        | false => exact absurd (bl_tri h hxy) (hn y (by simp))
      rw [put_append, put_first hp]
      intro e he
      rw [List.reverse_cons, List.mem_append] at he
      rcases he with he | he
      · refine bl_trans ?_ hyx
        have := List.pairwise_append.1 (by simpa using ha : Asc (r.reverse ++ y :: post))
        exact this.2.2 e he y (by simp)
      · simp at he; rw [he]; exact hyx

theorem put_asc {x : api_Feature} : ∀ {r : List api_Feature}, Asc r → (∀ e ∈ r, e.fName ≠ x.fName) → Asc (put r x)
  | [], _, _ => List.pairwise_singleton _ _
  | e :: r, ha, hn => by
    obtain ⟨h1, h2⟩ := List.pairwise_cons.1 ha
    simp only [put]
    cases hex : ltB e x with
    | true =>
      simp only [cond_true]
      refine List.pairwise_cons.2 ⟨fun y hy => ?_, put_asc h2 fun e he => hn e (List.mem_cons_of_mem _ he)⟩
      rcases put_mem.1 hy with rfl | hy
      · exact hex
      · exact h1 y hy
    | false =>
      simp only [cond_false]
      have hxe : ltB x e = true := by
        cases h : ltB x e with
        | true => rfl
        | false => exact absurd (bl_tri hex h) (hn e (by simp))
      refine List.pairwise_cons.2 ⟨fun y hy => ?_, ha⟩
      rcases List.mem_cons.1 hy with rfl | hy
      · exact hxe
      · exact bl_trans hxe (h1 y hy)

/-- A record out of features with distinct names. -/
def rec (c : List api_Feature) : List api_Feature := c.foldl put []

theorem foldl_put_mem {x : api_Feature} : ∀ {c acc : List api_Feature}, x ∈ c.foldl put acc ↔ x ∈ c ∨ x ∈ acc
  | [], acc => by simp
  | y :: c, acc => by
    rw [List.foldl_cons, foldl_put_mem, put_mem]
    simp only [List.mem_cons]
    constructor
    · rintro (h | h | h) <;> simp [h]
    · rintro ((h | h) | h) <;> simp [h]

def Distinct (c : List api_Feature) : Prop := c.Pairwise fun x y => x.fName ≠ y.fName

theorem sortL_put : ∀ {c acc : List api_Feature}, Asc acc → Distinct c → (∀ e ∈ acc, ∀ f ∈ c, e.fName ≠ f.fName) → sortL (ltOf cmpF) acc c = c.foldl put acc ∧ Asc (c.foldl put acc)
  | [], acc, ha, _, _ => ⟨rfl, ha⟩
  | x :: c, acc, ha, hd, hn => by
    obtain ⟨h1, h2⟩ := List.pairwise_cons.1 hd
    have hx : ∀ e ∈ acc, e.fName ≠ x.fName := fun e he => hn e he x (by simp)
    have e := insRev_put (x := x) (r := acc.reverse) (post := []) (by simpa using ha) (fun e he => hx e (by simpa using he)) (fun e he => by cases he)
    simp only [List.reverse_reverse, List.append_nil] at e
    simp only [sortL, List.foldl_cons, e]
    refine sortL_put (put_asc ha hx) h2 fun e he f hf => ?_
    rcases put_mem.1 he with rfl | he
    · exact h1 f hf
    · exact hn e he f (List.mem_cons_of_mem _ hf)

theorem sortF_rec {c : List api_Feature} (h : Distinct c) : sortF c = rec c := (sortL_put List.Pairwise.nil h (fun e he => by cases he)).1
theorem rec_asc {c : List api_Feature} (h : Distinct c) : Asc (rec c) := (sortL_put List.Pairwise.nil h (fun e he => by cases he)).2
theorem rec_mem {x : api_Feature} {c : List api_Feature} : x ∈ rec c ↔ x ∈ c := by unfold rec; rw [foldl_put_mem]; simp

end Go.Ai.Par
set_option linter.unusedVariables false
set_option linter.unusedSectionVars false
noncomputable section
namespace Go.Ai.Par
open Go Go.Ai Go.Proofs
noncomputable def sigs14 (M : Nat) : List (Nat × Sig E) := [(34, pentaglotref02_All.sig M)]
noncomputable def rs14 (M : Nat) : List (Nat × Sig E) := []
noncomputable def its14 (M : Nat) : List (Nat × It E) := []
theorem sigs_ok14 (M : Nat) : SigsOk Try.prog (sigs14 M) := SigsOk.cons (pentaglotref02_All.says M) (SigsOk.nil)
theorem rs_ok14 (M : Nat) : SigsOk Try.prog (rs14 M) := SigsOk.nil
theorem its_ok14 (M : Nat) : ItsOk Try.prog (its14 M) := ItsOk.nil
noncomputable def C14 (M : Nat) : Ctx E := { ti := fun t => tisE.lookup t, sig := fun f => (sigs14 M).lookup f, it := fun f => (its14 M).lookup f, nt := 6 }
theorem SigOk_C14 (M : Nat) : SigOk Try.prog (C14 M) := sigs_ok14 M
theorem RSigOk_C14 (M : Nat) : SigOk Try.prog ({ ti := fun _ => none, sig := fun f => (rs14 M).lookup f } : Ctx E) := rs_ok14 M
theorem ItOk_C14 (M : Nat) : ItOk Try.prog (C14 M) := (its_ok14 M).ok
namespace pentaglotref10_Cells
noncomputable def plans : List (Option (Plan Nm)) := [none, none]
noncomputable abbrev body : Code := bodyOf Try.f14
def ps : List (Ty Nm) := [(.st .api_Paradigm)]
def rs : List (Ty Nm) := [(.sl (.sl (.st .api_Feature)))]
def ex : List (Option Nat) := [some 31]
noncomputable def inl : List (Nat × Nat × Nat × Inl Nm) := []
theorem inl_ok : InlsOk Try.prog inl := InlsOk.nil
noncomputable def X (M : Nat) : Ext E (List (List api_Feature)) := extOf (C14 M) (inlOf inl) (fun f => (rs14 M).lookup f) (fun _ _ _ => none) noX M 1
abbrev Rt := (List (List api_Feature))
noncomputable def H (M : Nat) : Hd E Rt := hd0 (X M)
theorem Hok (M : Nat) : (H M).ok (C14 M) M := hd0_ok _
abbrev Zt := List Dir → St E → Option Rt
abbrev Ut := St E → Option Rt
noncomputable def s (M : Nat) (pa0_0 : api_Paradigm) : Option Rt :=
  Option.bind (pentaglotref02_All M pa0_0.fDimensions) fun r5_1 =>
  some r5_1
end pentaglotref10_Cells
noncomputable def pentaglotref10_Cells (M : Nat) (pa0_0 : api_Paradigm) : Option (List (List api_Feature)) :=
  pentaglotref10_Cells.s M pa0_0
namespace pentaglotref10_Cells
noncomputable def K (M : Nat) : Cont E (List (List api_Feature)) := kRet (C14 M) Try.f14.results.toList rs ex
set_option maxRecDepth 100000
theorem g (M : Nat) (Z : Zt) (pa0_0 : api_Paradigm) : runZ (C14 M) (extZ (C14 M) (H M) 0) Z body plans (start (argHs ps pa0_0) Try.f14.ntmps 6) (K M) = s M pa0_0 := by kernel_rfl
theorem run (M : Nat) (pa0_0 : api_Paradigm) : runF (rs := rs) (C14 M) (X M) M body Try.f14.ntmps 6 Try.f14.results.toList plans ps ex pa0_0 = pentaglotref10_Cells M pa0_0 := by
  refine Eq.trans (b := runC (C14 M) (X M) M body plans (start (argHs ps pa0_0) Try.f14.ntmps 6) (K M)) (by kernel_rfl) ?_
  refine (zrun (Hok M) 0 body plans _ (K M) (fun _ => none) fun _ => rfl).symm.trans ?_
  refine (g M _ pa0_0).trans ?_
  rfl
noncomputable def sig (M : Nat) : Sig E := { ps := ps, rs := rs, ex := ex, fn := fun x => pentaglotref10_Cells M x }
theorem says (M : Nat) : callable Try.prog 14 = true ∧ ∀ x y, (sig M).fn x = some y → Says Try.prog 14 (sig M) x y := by
  refine ⟨by kernel_rfl, fun x y h => ?_⟩
  refine says_of_run (S := sig M) (C := C14 M) (X := X M) (M := M) (q := 6) (plans := plans) (COk_Try) (SigOk_C14 M) (ItOk_C14 M) (by kernel_rfl) (callOk_ext COk_Try (SigOk_C14 M) (ItOk_C14 M) (by kernel_rfl) inl_ok.ok (RSigOk_C14 M) (fun _ => callOk_none) M 1) (Try.func14) (body := body) (by kernel_rfl) (by kernel_rfl) ?_
  exact (run M x).trans h
end pentaglotref10_Cells
end Go.Ai.Par
end
set_option linter.unusedVariables false
set_option linter.unusedSectionVars false
noncomputable section
namespace Go.Ai.Par
open Go Go.Ai Go.Proofs
noncomputable def sigs16 (M : Nat) : List (Nat × Sig E) := []
noncomputable def rs16 (M : Nat) : List (Nat × Sig E) := []
noncomputable def its16 (M : Nat) : List (Nat × It E) := [(54, feature_All_1.it M)]
theorem sigs_ok16 (M : Nat) : SigsOk Try.prog (sigs16 M) := SigsOk.nil
theorem rs_ok16 (M : Nat) : SigsOk Try.prog (rs16 M) := SigsOk.nil
theorem its_ok16 (M : Nat) : ItsOk Try.prog (its16 M) := ItsOk.cons (feature_All_1.says M) (ItsOk.nil)
noncomputable def C16 (M : Nat) : Ctx E := { ti := fun t => tisE.lookup t, sig := fun f => (sigs16 M).lookup f, it := fun f => (its16 M).lookup f, nt := 24 }
theorem SigOk_C16 (M : Nat) : SigOk Try.prog (C16 M) := sigs_ok16 M
theorem RSigOk_C16 (M : Nat) : SigOk Try.prog ({ ti := fun _ => none, sig := fun f => (rs16 M).lookup f } : Ctx E) := rs_ok16 M
theorem ItOk_C16 (M : Nat) : ItOk Try.prog (C16 M) := (its_ok16 M).ok
namespace paradigm_Count
noncomputable def plans : List (Option (Plan Nm)) := [none, none, some { tmps := [(1, .asis), (2, .asis)], boxes := [(1, [.asis, .asis, .asis]), (2, [.asis])] }, none, none, some { tmps := [(2, .asis), (3, .asis), (11, .asis), (12, .asis), (13, .asis)], boxes := [(2, [.asis]), (1, [.asis, .asis, .asis])], outs := [(1, .asis), (2, .asis)] }, none, none, none, none, none, none, none, none]
noncomputable abbrev body : Code := bodyOf Try.f16
def ps : List (Ty Nm) := [(.st .api_Paradigm)]
def rs : List (Ty Nm) := [(.int .i64)]
def ex : List (Option Nat) := [none]
noncomputable def inl : List (Nat × Nat × Nat × Inl Nm) := [(0, 8, 35, { off := 24, ntmps := Try.f35.ntmps, body := bodyOf Try.f35, res := Try.f35.results.toList, plans := [] })]
theorem inl_ok : InlsOk Try.prog inl := InlsOk.cons ⟨by kernel_rfl, _, Try.func35, by kernel_rfl, rfl, rfl⟩ (InlsOk.nil)
noncomputable def X (M : Nat) : Ext E Int := extOf (C16 M) (inlOf inl) (fun f => (rs16 M).lookup f) (fun _ _ _ => none) noX M 2
abbrev Rt := Int
noncomputable def H (M : Nat) : Hd E Rt := hd0 (X M)
theorem Hok (M : Nat) : (H M).ok (C16 M) M := hd0_ok _
abbrev Qt2 : List Dir := [.r, .l, .r, .k, .L, .k, .r, .l, .r, .k]
abbrev Ht2 := api_Paradigm → (List ((List api_Feature))) → Int → Int → Option Rt
abbrev Qt1 : List Dir := [.r, .l, .r, .k]
abbrev Ht1 := api_Paradigm → (List ((List api_Feature))) → Option Rt
abbrev Zt := List Dir → St E → Option Rt
abbrev Ut := St E → Option Rt
noncomputable def s2 (M : Nat) (h2 : Ht2) (pa0_0 : api_Paradigm) (xs900_1 : List ((List api_Feature))) (n3_2 : Int) (x13_2 : Int) : Option Rt :=
  cond (decide (x13_2 < (pa0_0.fDimensions.length : Int)))
   (cond (decide (0 ≤ x13_2) && decide (x13_2 < (pa0_0.fDimensions.length : Int)))
     (h2 pa0_0 xs900_1 (IntKind.i64.wrap (n3_2 * (((pa0_0.fDimensions.getD x13_2.toNat default).fValues).length : Int))) (IntKind.i64.wrap (x13_2 + 1)))
     none)
   (some n3_2)
noncomputable def l2 (M : Nat) : Nat → Ht2
  | 0, _, _, _, _ => none
  | k + 1, pa0_0, xs900_1, n3_2, x13_2 => s2 M (l2 M k) pa0_0 xs900_1 n3_2 x13_2
noncomputable def s1 (M : Nat) (h2 : Ht2) (pa0_0 : api_Paradigm) (ri54_1 : List ((List api_Feature))) : Option Rt :=
  lcase ri54_1
   (some 0)
   (fun x900_1 xs900_1 =>
    h2 pa0_0 xs900_1 1 0)
noncomputable def l1 (M : Nat) : Nat → Ht1
  | 0, _, _ => none
  | k + 1, pa0_0, ri54_1 => s1 M (l2 M M) pa0_0 ri54_1
noncomputable def s (M : Nat) (h1 : Ht1) (pa0_0 : api_Paradigm) : Option Rt :=
  Option.bind (feature_All_1 M pa0_0.fDimensions) fun ri54_1 =>
  h1 pa0_0 ri54_1
end paradigm_Count
noncomputable def paradigm_Count (M : Nat) (pa0_0 : api_Paradigm) : Option Int :=
  paradigm_Count.s M (paradigm_Count.l1 M M) pa0_0
namespace paradigm_Count
noncomputable def S2 (pa0_0 : api_Paradigm) (xs900_1 : List ((List api_Feature))) (n3_2 : Int) (x13_2 : Int) : St E :=
  mkSt 24 28 [(2, .one (.ptr 2 0)), (3, .one (.tv (.int .i64 n3_2))), (11, .one (.tv (.sl (.st .api_Dimension) pa0_0.fDimensions))), (12, .one (.tv (.int .i64 (pa0_0.fDimensions.length : Int)))), (13, .one (.tv (.int .i64 x13_2)))] [(1, .cells [.tv (.str pa0_0.fName), .tv (.sl (.st .api_Dimension) pa0_0.fDimensions), .tv (.sl (.sl (.st .api_Affix)) pa0_0.fSlots)]), (2, .cells [.tv (.int .i64 0)])] 24 [(1, .one (.ptr 1 0)), (2, .one (.ptr 2 0))] [⟨[(.sl (.st .api_Feature))], xs900_1⟩] false
noncomputable def S1 (pa0_0 : api_Paradigm) (ri54_1 : List ((List api_Feature))) : St E :=
  mkSt 24 28 [(1, .one (.ptr 1 0)), (2, .one (.ptr 2 0))] [(1, .cells [.tv (.str pa0_0.fName), .tv (.sl (.st .api_Dimension) pa0_0.fDimensions), .tv (.sl (.sl (.st .api_Affix)) pa0_0.fSlots)]), (2, .cells [.tv (.int .i64 0)])] 0 [] [⟨[(.sl (.st .api_Feature))], ri54_1⟩] true
noncomputable def K (M : Nat) : Cont E Int := kRet (C16 M) Try.f16.results.toList rs ex
noncomputable abbrev zA (M : Nat) (ZL : List Dir → Option (Ut)) (q : List Dir) : Ut := zAt (C16 M) (H M) M 0 ZL body plans (K M) q
noncomputable abbrev lA (M : Nat) (ZL : List Dir → Option (Ut)) (q : List Dir) (k : Nat) : Ut := lpAt (C16 M) (H M) M 0 ZL body plans (K M) q k
noncomputable abbrev gA (M : Nat) (Z : Zt) (q : List Dir) : Ut := seg (C16 M) (H M) 0 Z body plans (K M) q
set_option maxRecDepth 100000
theorem g2 (M : Nat) (Z : Zt) (pa0_0 : api_Paradigm) (xs900_1 : List ((List api_Feature))) (n3_2 : Int) (x13_2 : Int) : gA M Z Qt2 (S2 pa0_0 xs900_1 n3_2 x13_2) = s2 M
    (fun pa0_0 xs900_1 n3_2 x13_2 => Z Qt2 (S2 pa0_0 xs900_1 n3_2 x13_2)) pa0_0 xs900_1 n3_2 x13_2 := by kernel_rfl
theorem g1 (M : Nat) (Z : Zt) (pa0_0 : api_Paradigm) (ri54_1 : List ((List api_Feature))) : gA M Z Qt1 (S1 pa0_0 ri54_1) = s1 M
    (fun pa0_0 xs900_1 n3_2 x13_2 => Z Qt2 (S2 pa0_0 xs900_1 n3_2 x13_2)) pa0_0 ri54_1 := by kernel_rfl
theorem g (M : Nat) (Z : Zt) (pa0_0 : api_Paradigm) : runZ (C16 M) (extZ (C16 M) (H M) 0) Z body plans (start (argHs ps pa0_0) Try.f16.ntmps 28) (K M) = s M
    (fun pa0_0 ri54_1 => Z Qt1 (S1 pa0_0 ri54_1)) pa0_0 := by kernel_rfl
theorem el2 (M : Nat) (Z1 : Ut) (k : Nat) (pa0_0 : api_Paradigm) (xs900_1 : List ((List api_Feature))) (n3_2 : Int) (x13_2 : Int) : lA M (zlq Qt2 [Z1]) Qt2 k (S2 pa0_0 xs900_1 n3_2 x13_2) = l2 M k pa0_0 xs900_1 n3_2 x13_2 := by
  induction k generalizing pa0_0 xs900_1 n3_2 x13_2 with
  | zero => kernel_rfl
  | succ k ih =>
    refine Eq.trans (b := lA M (zlq Qt2 [Z1, lA M (zlq Qt2 [Z1]) Qt2 k]) Qt2 (k + 1) (S2 pa0_0 xs900_1 n3_2 x13_2)) (by kernel_rfl) ?_
    refine (seg_loop (Hok M) 0 Qt2 body plans (K M) _ (S2 pa0_0 xs900_1 n3_2 x13_2) (around_zlq _ _ (by kernel_rfl)) (by kernel_rfl) (by kernel_rfl)).trans ?_
    refine (g2 M _ pa0_0 xs900_1 n3_2 x13_2).trans ?_
    have x0 := (funext fun pa0_0 => funext fun xs900_1 => funext fun n3_2 => funext fun x13_2 => Eq.trans (b := lA M (zlq Qt2 [Z1]) Qt2 k (S2 pa0_0 xs900_1 n3_2 x13_2)) (by kernel_rfl) (ih pa0_0 xs900_1 n3_2 x13_2) : (fun pa0_0 xs900_1 n3_2 x13_2 => zA M (zlq Qt2 [Z1, lA M (zlq Qt2 [Z1]) Qt2 k]) Qt2 (S2 pa0_0 xs900_1 n3_2 x13_2)) = l2 M k)
    rw [x0]; rfl
theorem e2 (M : Nat) (Z1 : Ut) (pa0_0 : api_Paradigm) (xs900_1 : List ((List api_Feature))) (n3_2 : Int) (x13_2 : Int) : zA M (zlq Qt2 [Z1]) Qt2 (S2 pa0_0 xs900_1 n3_2 x13_2) = l2 M M pa0_0 xs900_1 n3_2 x13_2 :=
  Eq.trans (b := lA M (zlq Qt2 [Z1]) Qt2 M (S2 pa0_0 xs900_1 n3_2 x13_2)) (by kernel_rfl) (el2 M Z1 M pa0_0 xs900_1 n3_2 x13_2)
theorem el1 (M : Nat) (k : Nat) (pa0_0 : api_Paradigm) (ri54_1 : List ((List api_Feature))) : lA M (zlq Qt1 []) Qt1 k (S1 pa0_0 ri54_1) = l1 M k pa0_0 ri54_1 := by
  induction k generalizing pa0_0 ri54_1 with
  | zero => kernel_rfl
  | succ k ih =>
    refine Eq.trans (b := lA M (zlq Qt1 [lA M (zlq Qt1 []) Qt1 k]) Qt1 (k + 1) (S1 pa0_0 ri54_1)) (by kernel_rfl) ?_
    refine (seg_loop (Hok M) 0 Qt1 body plans (K M) _ (S1 pa0_0 ri54_1) (around_zlq _ _ (by kernel_rfl)) (by kernel_rfl) (by kernel_rfl)).trans ?_
    refine (g1 M _ pa0_0 ri54_1).trans ?_
    have x0 := (funext fun pa0_0 => funext fun xs900_1 => funext fun n3_2 => funext fun x13_2 => Eq.trans (b := zA M (zlq Qt2 [(lA M (zlq Qt1 []) Qt1 k)]) Qt2 (S2 pa0_0 xs900_1 n3_2 x13_2)) (by kernel_rfl) (e2 M (lA M (zlq Qt1 []) Qt1 k) pa0_0 xs900_1 n3_2 x13_2) : (fun pa0_0 xs900_1 n3_2 x13_2 => zA M (zlq Qt1 [lA M (zlq Qt1 []) Qt1 k]) Qt2 (S2 pa0_0 xs900_1 n3_2 x13_2)) = l2 M M)
    rw [x0]; rfl
theorem e1 (M : Nat) (pa0_0 : api_Paradigm) (ri54_1 : List ((List api_Feature))) : zA M (zlq Qt1 []) Qt1 (S1 pa0_0 ri54_1) = l1 M M pa0_0 ri54_1 :=
  Eq.trans (b := lA M (zlq Qt1 []) Qt1 M (S1 pa0_0 ri54_1)) (by kernel_rfl) (el1 M M pa0_0 ri54_1)
theorem run (M : Nat) (pa0_0 : api_Paradigm) : runF (rs := rs) (C16 M) (X M) M body Try.f16.ntmps 28 Try.f16.results.toList plans ps ex pa0_0 = paradigm_Count M pa0_0 := by
  refine Eq.trans (b := runC (C16 M) (X M) M body plans (start (argHs ps pa0_0) Try.f16.ntmps 28) (K M)) (by kernel_rfl) ?_
  refine (zrun (Hok M) 0 body plans _ (K M) (fun _ => none) fun _ => rfl).symm.trans ?_
  refine (g M _ pa0_0).trans ?_
  have x0 := (funext fun pa0_0 => funext fun ri54_1 => Eq.trans (b := zA M (zlq Qt1 []) Qt1 (S1 pa0_0 ri54_1)) (by kernel_rfl) (e1 M pa0_0 ri54_1) : (fun pa0_0 ri54_1 => zA M (fun _ => none) Qt1 (S1 pa0_0 ri54_1)) = l1 M M)
  rw [x0]; rfl
noncomputable def sig (M : Nat) : Sig E := { ps := ps, rs := rs, ex := ex, fn := fun x => paradigm_Count M x }
theorem says (M : Nat) : callable Try.prog 16 = true ∧ ∀ x y, (sig M).fn x = some y → Says Try.prog 16 (sig M) x y := by
  refine ⟨by kernel_rfl, fun x y h => ?_⟩
  refine says_of_run (S := sig M) (C := C16 M) (X := X M) (M := M) (q := 28) (plans := plans) (COk_Try) (SigOk_C16 M) (ItOk_C16 M) (by kernel_rfl) (callOk_ext COk_Try (SigOk_C16 M) (ItOk_C16 M) (by kernel_rfl) inl_ok.ok (RSigOk_C16 M) (fun _ => callOk_none) M 2) (Try.func16) (body := body) (by kernel_rfl) (by kernel_rfl) ?_
  exact (run M x).trans h
end paradigm_Count
end Go.Ai.Par
end
set_option linter.unusedVariables false
set_option linter.unusedSectionVars false
noncomputable section
namespace Go.Ai.Par
open Go Go.Ai Go.Proofs
noncomputable def sigs15 (M : Nat) : List (Nat × Sig E) := [(16, paradigm_Count.sig M)]
noncomputable def rs15 (M : Nat) : List (Nat × Sig E) := []
noncomputable def its15 (M : Nat) : List (Nat × It E) := [(54, feature_All_1.it M)]
theorem sigs_ok15 (M : Nat) : SigsOk Try.prog (sigs15 M) := SigsOk.cons (paradigm_Count.says M) (SigsOk.nil)
theorem rs_ok15 (M : Nat) : SigsOk Try.prog (rs15 M) := SigsOk.nil
theorem its_ok15 (M : Nat) : ItsOk Try.prog (its15 M) := ItsOk.cons (feature_All_1.says M) (ItsOk.nil)
noncomputable def C15 (M : Nat) : Ctx E := { ti := fun t => tisE.lookup t, sig := fun f => (sigs15 M).lookup f, it := fun f => (its15 M).lookup f, nt := 26 }
theorem SigOk_C15 (M : Nat) : SigOk Try.prog (C15 M) := sigs_ok15 M
theorem RSigOk_C15 (M : Nat) : SigOk Try.prog ({ ti := fun _ => none, sig := fun f => (rs15 M).lookup f } : Ctx E) := rs_ok15 M
theorem ItOk_C15 (M : Nat) : ItOk Try.prog (C15 M) := (its_ok15 M).ok
namespace paradigm_Cell
noncomputable def plans : List (Option (Plan Nm)) := [none, none, none, none, none, none, some { tmps := [(3, .asis), (4, .asis), (5, .asis), (6, .asis)], boxes := [(3, [.asis]), (4, [.asis]), (5, [.asis]), (6, [.asis])] }, none, none, none, none, none]
noncomputable abbrev body : Code := bodyOf Try.f15
def ps : List (Ty Nm) := [(.st .api_Paradigm), (.int .i64)]
def rs : List (Ty Nm) := [(.sl (.st .api_Feature)), .bool]
def ex : List (Option Nat) := [none, none]
noncomputable def inl : List (Nat × Nat × Nat × Inl Nm) := [(0, 18, 35, { off := 26, ntmps := Try.f35.ntmps, body := bodyOf Try.f35, res := Try.f35.results.toList, plans := [] })]
theorem inl_ok : InlsOk Try.prog inl := InlsOk.cons ⟨by kernel_rfl, _, Try.func35, by kernel_rfl, rfl, rfl⟩ (InlsOk.nil)
noncomputable def X (M : Nat) : Ext E ((List api_Feature) × Bool) := extOf (C15 M) (inlOf inl) (fun f => (rs15 M).lookup f) (fun _ _ _ => none) noX M 2
abbrev Rt := (List api_Feature) × Bool
noncomputable def H (M : Nat) : Hd E Rt := hd0 (X M)
theorem Hok (M : Nat) : (H M).ok (C15 M) M := hd0_ok _
abbrev Qt1 : List Dir := [.r, .r, .r, .l, .r, .k]
abbrev Ht1 := Int → (List ((List api_Feature))) → Int → Option Rt
abbrev Zt := List Dir → St E → Option Rt
abbrev Ut := St E → Option Rt
noncomputable def s1 (M : Nat) (h1 : Ht1) (na1_0 : Int) (it0_1 : (List ((List api_Feature)))) (ib06_1 : Int) : Option Rt :=
  lcase it0_1
   (some ([], false))
   (fun x900_1 xs900_1 =>
    cond (decide (ib06_1 = na1_0))
     (some (x900_1, true))
     (h1 na1_0 xs900_1 (IntKind.i64.wrap (ib06_1 + 1))))
noncomputable def l1 (M : Nat) : Nat → Ht1
  | 0, _, _, _ => none
  | k + 1, na1_0, it0_1, ib06_1 => s1 M (l1 M k) na1_0 it0_1 ib06_1
noncomputable def s (M : Nat) (h1 : Ht1) (pa0_0 : api_Paradigm) (na1_0 : Int) : Option Rt :=
  cond (decide (na1_0 < 0))
   (some ([], false))
   (Option.bind (paradigm_Count M pa0_0) fun r13_4 =>
    cond (decide (r13_4 ≤ na1_0))
     (some ([], false))
     (Option.bind (feature_All_1 M pa0_0.fDimensions) fun ri54_5 =>
      h1 na1_0 ri54_5 0))
end paradigm_Cell
noncomputable def paradigm_Cell (M : Nat) (pa0_0 : api_Paradigm) (na1_0 : Int) : Option ((List api_Feature) × Bool) :=
  paradigm_Cell.s M (paradigm_Cell.l1 M M) pa0_0 na1_0
namespace paradigm_Cell
noncomputable def S1 (na1_0 : Int) (it0_1 : (List ((List api_Feature)))) (ib06_1 : Int) : St E :=
  mkSt 26 30 [(3, .one (.ptr 3 0)), (4, .one (.ptr 4 0)), (5, .one (.ptr 5 0)), (6, .one (.ptr 6 0))] [(3, .cells [.tv (.int .i64 na1_0)]), (4, .cells [.tv (.val nilS)]), (5, .cells [.tv (.bool false)]), (6, .cells [.tv (.int .i64 ib06_1)])] 0 [] [⟨[(.sl (.st .api_Feature))], it0_1⟩] true
noncomputable def K (M : Nat) : Cont E ((List api_Feature) × Bool) := kRet (C15 M) Try.f15.results.toList rs ex
noncomputable abbrev zA (M : Nat) (ZL : List Dir → Option (Ut)) (q : List Dir) : Ut := zAt (C15 M) (H M) M 0 ZL body plans (K M) q
noncomputable abbrev lA (M : Nat) (ZL : List Dir → Option (Ut)) (q : List Dir) (k : Nat) : Ut := lpAt (C15 M) (H M) M 0 ZL body plans (K M) q k
noncomputable abbrev gA (M : Nat) (Z : Zt) (q : List Dir) : Ut := seg (C15 M) (H M) 0 Z body plans (K M) q
set_option maxRecDepth 100000
theorem g1 (M : Nat) (Z : Zt) (na1_0 : Int) (it0_1 : (List ((List api_Feature)))) (ib06_1 : Int) : gA M Z Qt1 (S1 na1_0 it0_1 ib06_1) = s1 M
    (fun na1_0 it0_1 ib06_1 => Z Qt1 (S1 na1_0 it0_1 ib06_1)) na1_0 it0_1 ib06_1 := by kernel_rfl
theorem g (M : Nat) (Z : Zt) (pa0_0 : api_Paradigm) (na1_0 : Int) : runZ (C15 M) (extZ (C15 M) (H M) 0) Z body plans (start (argHs ps (pa0_0, na1_0)) Try.f15.ntmps 30) (K M) = s M
    (fun na1_0 it0_1 ib06_1 => Z Qt1 (S1 na1_0 it0_1 ib06_1)) pa0_0 na1_0 := by kernel_rfl
theorem el1 (M : Nat) (k : Nat) (na1_0 : Int) (it0_1 : (List ((List api_Feature)))) (ib06_1 : Int) : lA M (zlq Qt1 []) Qt1 k (S1 na1_0 it0_1 ib06_1) = l1 M k na1_0 it0_1 ib06_1 := by
  induction k generalizing na1_0 it0_1 ib06_1 with
  | zero => kernel_rfl
  | succ k ih =>
    refine Eq.trans (b := lA M (zlq Qt1 [lA M (zlq Qt1 []) Qt1 k]) Qt1 (k + 1) (S1 na1_0 it0_1 ib06_1)) (by kernel_rfl) ?_
    refine (seg_loop (Hok M) 0 Qt1 body plans (K M) _ (S1 na1_0 it0_1 ib06_1) (around_zlq _ _ (by kernel_rfl)) (by kernel_rfl) (by kernel_rfl)).trans ?_
    refine (g1 M _ na1_0 it0_1 ib06_1).trans ?_
    have x0 := (funext fun na1_0 => funext fun it0_1 => funext fun ib06_1 => Eq.trans (b := lA M (zlq Qt1 []) Qt1 k (S1 na1_0 it0_1 ib06_1)) (by kernel_rfl) (ih na1_0 it0_1 ib06_1) : (fun na1_0 it0_1 ib06_1 => zA M (zlq Qt1 [lA M (zlq Qt1 []) Qt1 k]) Qt1 (S1 na1_0 it0_1 ib06_1)) = l1 M k)
    rw [x0]; rfl
theorem e1 (M : Nat) (na1_0 : Int) (it0_1 : (List ((List api_Feature)))) (ib06_1 : Int) : zA M (zlq Qt1 []) Qt1 (S1 na1_0 it0_1 ib06_1) = l1 M M na1_0 it0_1 ib06_1 :=
  Eq.trans (b := lA M (zlq Qt1 []) Qt1 M (S1 na1_0 it0_1 ib06_1)) (by kernel_rfl) (el1 M M na1_0 it0_1 ib06_1)
theorem run (M : Nat) (pa0_0 : api_Paradigm) (na1_0 : Int) : runF (rs := rs) (C15 M) (X M) M body Try.f15.ntmps 30 Try.f15.results.toList plans ps ex (pa0_0, na1_0) = paradigm_Cell M pa0_0 na1_0 := by
  refine Eq.trans (b := runC (C15 M) (X M) M body plans (start (argHs ps (pa0_0, na1_0)) Try.f15.ntmps 30) (K M)) (by kernel_rfl) ?_
  refine (zrun (Hok M) 0 body plans _ (K M) (fun _ => none) fun _ => rfl).symm.trans ?_
  refine (g M _ pa0_0 na1_0).trans ?_
  have x0 := (funext fun na1_0 => funext fun it0_1 => funext fun ib06_1 => Eq.trans (b := zA M (zlq Qt1 []) Qt1 (S1 na1_0 it0_1 ib06_1)) (by kernel_rfl) (e1 M na1_0 it0_1 ib06_1) : (fun na1_0 it0_1 ib06_1 => zA M (fun _ => none) Qt1 (S1 na1_0 it0_1 ib06_1)) = l1 M M)
  rw [x0]; rfl
noncomputable def sig (M : Nat) : Sig E := { ps := ps, rs := rs, ex := ex, fn := fun x => paradigm_Cell M x.1 x.2 }
theorem says (M : Nat) : callable Try.prog 15 = true ∧ ∀ x y, (sig M).fn x = some y → Says Try.prog 15 (sig M) x y := by
  refine ⟨by kernel_rfl, fun x y h => ?_⟩
  refine says_of_run (S := sig M) (C := C15 M) (X := X M) (M := M) (q := 30) (plans := plans) (COk_Try) (SigOk_C15 M) (ItOk_C15 M) (by kernel_rfl) (callOk_ext COk_Try (SigOk_C15 M) (ItOk_C15 M) (by kernel_rfl) inl_ok.ok (RSigOk_C15 M) (fun _ => callOk_none) M 2) (Try.func15) (body := body) (by kernel_rfl) (by kernel_rfl) ?_
  obtain ⟨pa0_0, na1_0⟩ := x
  exact (run M pa0_0 na1_0).trans h
end paradigm_Cell
end Go.Ai.Par
end
