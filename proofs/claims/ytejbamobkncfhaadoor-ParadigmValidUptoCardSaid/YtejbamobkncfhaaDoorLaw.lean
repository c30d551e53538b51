/- The law ParadigmValid of the chapter on paradigms, tied to the program's text: whatever it is called with, it answers true, where what it reads is of bulk at most 1048576. -/
import Derived.Test.YtejbamobkncfhaaDoorA0
import Derived.Test.YtejbamobkncfhaaDoorA1
import Derived.Test.YtejbamobkncfhaaDoorA2
import Derived.Test.YtejbamobkncfhaaDoorA3
import Derived.Shelf.Unicode.ValidAny
import Derived.Lib.MapLaws
import Derived.Lib.ValidU
import Derived.Carry
import Derived.OpenShut
import Derived.ChangeSame
import Derived.Test.YtejbamobkncfhaaDoorRows
import Derived.Test.YtejbamobkncfhaaDoorCards
import Derived.Test.YtejbamobkncfhaaDoorTie
import Derived.JoinedCond
import Derived.ProofKit
import Derived.Lib.LaidIn
import Derived.Lib.LaidU8T
import Derived.Deep.DeepHandedRow
set_option linter.unusedVariables false
set_option linter.unusedSectionVars false
noncomputable section
namespace Go.Ai.Pav
open Go Go.Ai Go.Proofs
noncomputable def sigs23 (M : Nat) : List (Nat × Sig E) := [(13, paradigm_Number.sig M), (15, feature_Valid.sig M), (42, feature_Unify.sig M)]
noncomputable def rs23 (M : Nat) : List (Nat × Sig E) := []
noncomputable def its23 (M : Nat) : List (Nat × It E) := []
theorem sigs_ok23 (M : Nat) : SigsOk Tryd.prog (sigs23 M) := SigsOk.cons (paradigm_Number.says M) (SigsOk.cons (feature_Valid.says M) (SigsOk.cons (feature_Unify.says M) (SigsOk.nil)))
theorem rs_ok23 (M : Nat) : SigsOk Tryd.prog (rs23 M) := SigsOk.nil
theorem its_ok23 (M : Nat) : ItsOk Tryd.prog (its23 M) := ItsOk.nil
noncomputable def C23 (M : Nat) : Ctx E := { ti := fun t => tisE.lookup t, sig := fun f => (sigs23 M).lookup f, it := fun f => (its23 M).lookup f, nt := 22 }
theorem SigOk_C23 (M : Nat) : SigOk Tryd.prog (C23 M) := sigs_ok23 M
theorem RSigOk_C23 (M : Nat) : SigOk Tryd.prog ({ ti := fun _ => none, sig := fun f => (rs23 M).lookup f } : Ctx E) := rs_ok23 M
theorem ItOk_C23 (M : Nat) : ItOk Tryd.prog (C23 M) := (its_ok23 M).ok
namespace paradigm_Merge
noncomputable def plans : List (Option (Plan Nm)) := [none, none, none, none, none]
noncomputable abbrev body : Code := bodyOf Tryd.f23
def ps : List (Ty Nm) := [(.st .api_Paradigm), (.sl (.st .api_Feature)), (.sl (.st .api_Feature))]
def rs : List (Ty Nm) := [(.sl (.st .api_Feature)), .bool]
def ex : List (Option Nat) := [some 45, none]
noncomputable def inl : List (Nat × Nat × Nat × Inl Nm) := []
theorem inl_ok : InlsOk Tryd.prog inl := InlsOk.nil
noncomputable def X (M : Nat) : Ext E ((List api_Feature) × Bool) := extOf (C23 M) (inlOf inl) (fun f => (rs23 M).lookup f) (fun _ _ _ => none) noX M 1
abbrev Rt := (List api_Feature) × Bool
noncomputable def H (M : Nat) : Hd E Rt := hd0 (X M)
theorem Hok (M : Nat) : (H M).ok (C23 M) M := hd0_ok _
abbrev Zt := List Dir → St E → Option Rt
abbrev Ut := St E → Option Rt
noncomputable def s (M : Nat) (pa0_0 : api_Paradigm) (cella1_0 : (List api_Feature)) (inherenta2_0 : (List api_Feature)) : Option Rt :=
  Option.bind (paradigm_Number M pa0_0 cella1_0) fun r10_7 =>
  cond (decide (r10_7 < 0))
   (some ([], false))
   (Option.bind (feature_Valid M inherenta2_0) fun r14_8 =>
    cond (!r14_8)
     (some ([], false))
     (Option.bind (feature_Unify M cella1_0 inherenta2_0) fun r19_9 =>
      some (r19_9.1, r19_9.2)))
end paradigm_Merge
noncomputable def paradigm_Merge (M : Nat) (pa0_0 : api_Paradigm) (cella1_0 : (List api_Feature)) (inherenta2_0 : (List api_Feature)) : Option ((List api_Feature) × Bool) :=
  paradigm_Merge.s M pa0_0 cella1_0 inherenta2_0
namespace paradigm_Merge
noncomputable def K (M : Nat) : Cont E ((List api_Feature) × Bool) := kRet (C23 M) Tryd.f23.results.toList rs ex
set_option maxRecDepth 100000
theorem g (M : Nat) (Z : Zt) (pa0_0 : api_Paradigm) (cella1_0 : (List api_Feature)) (inherenta2_0 : (List api_Feature)) : runZ (C23 M) (extZ (C23 M) (H M) 0) Z body plans (start (argHs ps (pa0_0, cella1_0, inherenta2_0)) Tryd.f23.ntmps 22) (K M) = s M pa0_0 cella1_0 inherenta2_0 := by kernel_rfl
theorem run (M : Nat) (pa0_0 : api_Paradigm) (cella1_0 : (List api_Feature)) (inherenta2_0 : (List api_Feature)) : runF (rs := rs) (C23 M) (X M) M body Tryd.f23.ntmps 22 Tryd.f23.results.toList plans ps ex (pa0_0, cella1_0, inherenta2_0) = paradigm_Merge M pa0_0 cella1_0 inherenta2_0 := by
  refine Eq.trans (b := runC (C23 M) (X M) M body plans (start (argHs ps (pa0_0, cella1_0, inherenta2_0)) Tryd.f23.ntmps 22) (K M)) (by kernel_rfl) ?_
  refine (zrun (Hok M) 0 body plans _ (K M) (fun _ => none) fun _ => rfl).symm.trans ?_
  refine (g M _ pa0_0 cella1_0 inherenta2_0).trans ?_
  rfl
noncomputable def sig (M : Nat) : Sig E := { ps := ps, rs := rs, ex := ex, fn := fun x => paradigm_Merge M x.1 x.2.1 x.2.2 }
theorem says (M : Nat) : callable Tryd.prog 23 = true ∧ ∀ x y, (sig M).fn x = some y → Says Tryd.prog 23 (sig M) x y := by
  refine ⟨by kernel_rfl, fun x y h => ?_⟩
  refine says_of_run (S := sig M) (C := C23 M) (X := X M) (M := M) (q := 22) (plans := plans) (COk_Tryd) (SigOk_C23 M) (ItOk_C23 M) (by kernel_rfl) (callOk_ext COk_Tryd (SigOk_C23 M) (ItOk_C23 M) (by kernel_rfl) inl_ok.ok (RSigOk_C23 M) (fun _ => callOk_none) M 1) (Tryd.func23) (body := body) (by kernel_rfl) (by kernel_rfl) ?_
  obtain ⟨pa0_0, cella1_0, inherenta2_0⟩ := x
  exact (run M pa0_0 cella1_0 inherenta2_0).trans h
end paradigm_Merge
end Go.Ai.Pav
end
set_option linter.unusedVariables false
set_option linter.unusedSectionVars false
noncomputable section
namespace Go.Ai.Pav
open Go Go.Ai Go.Proofs
noncomputable def sigs25 (M : Nat) : List (Nat × Sig E) := []
noncomputable def rs25 (M : Nat) : List (Nat × Sig E) := []
noncomputable def its25 (M : Nat) : List (Nat × It E) := []
theorem sigs_ok25 (M : Nat) : SigsOk Tryd.prog (sigs25 M) := SigsOk.nil
theorem rs_ok25 (M : Nat) : SigsOk Tryd.prog (rs25 M) := SigsOk.nil
theorem its_ok25 (M : Nat) : ItsOk Tryd.prog (its25 M) := ItsOk.nil
noncomputable def C25 (M : Nat) : Ctx E := { ti := fun t => tisE.lookup t, sig := fun f => (sigs25 M).lookup f, it := fun f => (its25 M).lookup f, nt := 10 }
theorem SigOk_C25 (M : Nat) : SigOk Tryd.prog (C25 M) := sigs_ok25 M
theorem RSigOk_C25 (M : Nat) : SigOk Tryd.prog ({ ti := fun _ => none, sig := fun f => (rs25 M).lookup f } : Ctx E) := rs_ok25 M
theorem ItOk_C25 (M : Nat) : ItOk Tryd.prog (C25 M) := (its_ok25 M).ok
namespace unicode_utf8_RuneCountInString
noncomputable def plans : List (Option (Plan Nm)) := [none, none, some { tmps := [(2, .asis), (4, .asis)], boxes := [(4, [])] }, none, none, none, none]
noncomputable abbrev body : Code := bodyOf Tryd.f25
def ps : List (Ty Nm) := [.str]
def rs : List (Ty Nm) := [(.int .i64)]
def ex : List (Option Nat) := [none]
noncomputable def inl : List (Nat × Nat × Nat × Inl Nm) := []
theorem inl_ok : InlsOk Tryd.prog inl := InlsOk.nil
noncomputable def X (M : Nat) : Ext E Int := extOf (C25 M) (inlOf inl) (fun f => (rs25 M).lookup f) (fun _ _ _ => none) noX M 1
abbrev Rt := Int
noncomputable def H (M : Nat) : Hd E Rt := hd0 (X M)
theorem Hok (M : Nat) : (H M).ok (C25 M) M := hd0_ok _
abbrev Qt1 : List Dir := [.r, .l, .r, .k]
abbrev Ht1 := (List UInt8) → Int → Nat → Option Rt
abbrev Zt := List Dir → St E → Option Rt
abbrev Ut := St E → Option Rt
noncomputable def s1 (M : Nat) (h1 : Ht1) (sa0_0 : (List UInt8)) (n2_1 : Int) (p4_1 : Nat) : Option Rt :=
  cond (decide (p4_1 < sa0_0.length))
   (h1 sa0_0 (IntKind.i64.wrap (n2_1 + 1)) (p4_1 + (dec sa0_0 p4_1).2))
   (some n2_1)
noncomputable def l1 (M : Nat) : Nat → Ht1
  | 0, _, _, _ => none
  | k + 1, sa0_0, n2_1, p4_1 => s1 M (l1 M k) sa0_0 n2_1 p4_1
noncomputable def s (M : Nat) (h1 : Ht1) (sa0_0 : (List UInt8)) : Option Rt :=
  h1 sa0_0 0 0
end unicode_utf8_RuneCountInString
noncomputable def unicode_utf8_RuneCountInString (M : Nat) (sa0_0 : (List UInt8)) : Option Int :=
  unicode_utf8_RuneCountInString.s M (unicode_utf8_RuneCountInString.l1 M M) sa0_0
namespace unicode_utf8_RuneCountInString
noncomputable def S1 (sa0_0 : (List UInt8)) (n2_1 : Int) (p4_1 : Nat) : St E :=
  mkSt 10 10 [(2, .one (.tv (.int .i64 n2_1))), (4, .one (.ptr 4 0))] [(4, .iter sa0_0 p4_1)] 0 [] [] false
noncomputable def K (M : Nat) : Cont E Int := kRet (C25 M) Tryd.f25.results.toList rs ex
noncomputable abbrev zA (M : Nat) (ZL : List Dir → Option (Ut)) (q : List Dir) : Ut := zAt (C25 M) (H M) M 0 ZL body plans (K M) q
noncomputable abbrev lA (M : Nat) (ZL : List Dir → Option (Ut)) (q : List Dir) (k : Nat) : Ut := lpAt (C25 M) (H M) M 0 ZL body plans (K M) q k
noncomputable abbrev gA (M : Nat) (Z : Zt) (q : List Dir) : Ut := seg (C25 M) (H M) 0 Z body plans (K M) q
set_option maxRecDepth 100000
theorem g1 (M : Nat) (Z : Zt) (sa0_0 : (List UInt8)) (n2_1 : Int) (p4_1 : Nat) : gA M Z Qt1 (S1 sa0_0 n2_1 p4_1) = s1 M
    (fun sa0_0 n2_1 p4_1 => Z Qt1 (S1 sa0_0 n2_1 p4_1)) sa0_0 n2_1 p4_1 := by kernel_rfl
theorem g (M : Nat) (Z : Zt) (sa0_0 : (List UInt8)) : runZ (C25 M) (extZ (C25 M) (H M) 0) Z body plans (start (argHs ps sa0_0) Tryd.f25.ntmps 10) (K M) = s M
    (fun sa0_0 n2_1 p4_1 => Z Qt1 (S1 sa0_0 n2_1 p4_1)) sa0_0 := by kernel_rfl
theorem el1 (M : Nat) (k : Nat) (sa0_0 : (List UInt8)) (n2_1 : Int) (p4_1 : Nat) : lA M (zlq Qt1 []) Qt1 k (S1 sa0_0 n2_1 p4_1) = l1 M k sa0_0 n2_1 p4_1 := by
  induction k generalizing sa0_0 n2_1 p4_1 with
  | zero => kernel_rfl
  | succ k ih =>
    refine Eq.trans (b := lA M (zlq Qt1 [lA M (zlq Qt1 []) Qt1 k]) Qt1 (k + 1) (S1 sa0_0 n2_1 p4_1)) (by kernel_rfl) ?_
    refine (seg_loop (Hok M) 0 Qt1 body plans (K M) _ (S1 sa0_0 n2_1 p4_1) (around_zlq _ _ (by kernel_rfl)) (by kernel_rfl) (by kernel_rfl)).trans ?_
    refine (g1 M _ sa0_0 n2_1 p4_1).trans ?_
    have x0 := (funext fun sa0_0 => funext fun n2_1 => funext fun p4_1 => Eq.trans (b := lA M (zlq Qt1 []) Qt1 k (S1 sa0_0 n2_1 p4_1)) (by kernel_rfl) (ih sa0_0 n2_1 p4_1) : (fun sa0_0 n2_1 p4_1 => zA M (zlq Qt1 [lA M (zlq Qt1 []) Qt1 k]) Qt1 (S1 sa0_0 n2_1 p4_1)) = l1 M k)
    rw [x0]; rfl
theorem e1 (M : Nat) (sa0_0 : (List UInt8)) (n2_1 : Int) (p4_1 : Nat) : zA M (zlq Qt1 []) Qt1 (S1 sa0_0 n2_1 p4_1) = l1 M M sa0_0 n2_1 p4_1 :=
  Eq.trans (b := lA M (zlq Qt1 []) Qt1 M (S1 sa0_0 n2_1 p4_1)) (by kernel_rfl) (el1 M M sa0_0 n2_1 p4_1)
theorem run (M : Nat) (sa0_0 : (List UInt8)) : runF (rs := rs) (C25 M) (X M) M body Tryd.f25.ntmps 10 Tryd.f25.results.toList plans ps ex sa0_0 = unicode_utf8_RuneCountInString M sa0_0 := by
  refine Eq.trans (b := runC (C25 M) (X M) M body plans (start (argHs ps sa0_0) Tryd.f25.ntmps 10) (K M)) (by kernel_rfl) ?_
  refine (zrun (Hok M) 0 body plans _ (K M) (fun _ => none) fun _ => rfl).symm.trans ?_
  refine (g M _ sa0_0).trans ?_
  have x0 := (funext fun sa0_0 => funext fun n2_1 => funext fun p4_1 => Eq.trans (b := zA M (zlq Qt1 []) Qt1 (S1 sa0_0 n2_1 p4_1)) (by kernel_rfl) (e1 M sa0_0 n2_1 p4_1) : (fun sa0_0 n2_1 p4_1 => zA M (fun _ => none) Qt1 (S1 sa0_0 n2_1 p4_1)) = l1 M M)
  rw [x0]; rfl
noncomputable def sig (M : Nat) : Sig E := { ps := ps, rs := rs, ex := ex, fn := fun x => unicode_utf8_RuneCountInString M x }
theorem says (M : Nat) : callable Tryd.prog 25 = true ∧ ∀ x y, (sig M).fn x = some y → Says Tryd.prog 25 (sig M) x y := by
  refine ⟨by kernel_rfl, fun x y h => ?_⟩
  refine says_of_run (S := sig M) (C := C25 M) (X := X M) (M := M) (q := 10) (plans := plans) (COk_Tryd) (SigOk_C25 M) (ItOk_C25 M) (by kernel_rfl) (callOk_ext COk_Tryd (SigOk_C25 M) (ItOk_C25 M) (by kernel_rfl) inl_ok.ok (RSigOk_C25 M) (fun _ => callOk_none) M 1) (Tryd.func25) (body := body) (by kernel_rfl) (by kernel_rfl) ?_
  exact (run M x).trans h
end unicode_utf8_RuneCountInString
end Go.Ai.Pav
end
set_option linter.unusedVariables false
set_option linter.unusedSectionVars false
noncomputable section
namespace Go.Ai.Pav
open Go Go.Ai Go.Proofs
noncomputable def sigs9 (M : Nat) : List (Nat × Sig E) := [(23, paradigm_Merge.sig M), (24, paradigm_Chosen.sig M), (25, unicode_utf8_RuneCountInString.sig M)]
noncomputable def rs9 (M : Nat) : List (Nat × Sig E) := []
noncomputable def its9 (M : Nat) : List (Nat × It E) := []
theorem sigs_ok9 (M : Nat) : SigsOk Tryd.prog (sigs9 M) := SigsOk.cons (paradigm_Merge.says M) (SigsOk.cons (paradigm_Chosen.says M) (SigsOk.cons (unicode_utf8_RuneCountInString.says M) (SigsOk.nil)))
theorem rs_ok9 (M : Nat) : SigsOk Tryd.prog (rs9 M) := SigsOk.nil
theorem its_ok9 (M : Nat) : ItsOk Tryd.prog (its9 M) := ItsOk.nil
noncomputable def C9 (M : Nat) : Ctx E := { ti := fun t => tisE.lookup t, sig := fun f => (sigs9 M).lookup f, it := fun f => (its9 M).lookup f, nt := 58 }
theorem SigOk_C9 (M : Nat) : SigOk Tryd.prog (C9 M) := sigs_ok9 M
theorem RSigOk_C9 (M : Nat) : SigOk Tryd.prog ({ ti := fun _ => none, sig := fun f => (rs9 M).lookup f } : Ctx E) := rs_ok9 M
theorem ItOk_C9 (M : Nat) : ItOk Tryd.prog (C9 M) := (its_ok9 M).ok
namespace paradigm_Underlying
noncomputable def plans : List (Option (Plan Nm)) := [none, none, none, none, none, none, none, some { tmps := [(4, .asis), (10, .own (100010, 0, 45) (.st .api_Feature)), (12, .asis), (28, .asis), (29, .asis)], boxes := [(4, [.asis, .asis, .asis])] }, none, none, none, none, none, none, none, some { tmps := [(12, .asis)], boxes := [] }, none, none, none, none]
noncomputable abbrev body : Code := bodyOf Tryd.f9
def ps : List (Ty Nm) := [(.st .api_Paradigm), .str, (.sl (.st .api_Feature)), (.sl (.st .api_Feature))]
def rs : List (Ty Nm) := [.str, (.int .i64)]
def ex : List (Option Nat) := [none, none]
noncomputable def inl : List (Nat × Nat × Nat × Inl Nm) := []
theorem inl_ok : InlsOk Tryd.prog inl := InlsOk.nil
noncomputable def X (M : Nat) : Ext E ((List UInt8) × Int) := extOf (C9 M) (inlOf inl) (fun f => (rs9 M).lookup f) (fun _ _ _ => none) noX M 1
abbrev Rt := (List UInt8) × Int
noncomputable def H (M : Nat) : Hd E Rt := hd0 (X M)
theorem Hok (M : Nat) : (H M).ok (C9 M) M := hd0_ok _
abbrev Qt2 : List Dir := [.r, .r, .r, .r]
abbrev Ht2 := (List UInt8) → Option Rt
abbrev Qt1 : List Dir := [.r, .r, .r, .r, .l, .r, .k]
abbrev Ht1 := api_Paradigm → ((List api_Feature) × Bool) → (List UInt8) → Int → Option Rt
abbrev Zt := List Dir → St E → Option Rt
abbrev Ut := St E → Option Rt
noncomputable def s2 (M : Nat) (form12_2 : (List UInt8)) : Option Rt :=
  Option.bind (unicode_utf8_RuneCountInString M form12_2) fun r55_10 =>
  cond (decide (40 < r55_10))
   (some ([], 2))
   (some (form12_2, 0))
noncomputable def j2 (M : Nat) (form12_2 : (List UInt8)) : Option Rt :=
  s2 M form12_2
noncomputable def s1 (M : Nat) (h1 : Ht1) (h2 : Ht2) (pa0_0 : api_Paradigm) (r20_1 : (List api_Feature) × Bool) (form12_1 : (List UInt8)) (x29_1 : Int) : Option Rt :=
  cond (decide (x29_1 < (pa0_0.fSlots.length : Int)))
   (Option.bind (paradigm_Chosen M pa0_0 x29_1 r20_1.1) fun r35_9 =>
    cond (decide (0 ≤ r35_9))
     (cond (decide (0 ≤ x29_1) && decide (x29_1 < (pa0_0.fSlots.length : Int)))
       (cond (decide (0 ≤ r35_9) && decide (r35_9 < ((pa0_0.fSlots.getD x29_1.toNat default).length : Int)))
         (cond (decide ((((pa0_0.fSlots.getD x29_1.toNat default).getD r35_9.toNat default).fPrefix).length + form12_1.length ≤ 1125899906842624))
           (cond (decide (((((pa0_0.fSlots.getD x29_1.toNat default).getD r35_9.toNat default).fPrefix) ++ form12_1).length + (((pa0_0.fSlots.getD x29_1.toNat default).getD r35_9.toNat default).fSuffix).length ≤ 1125899906842624))
             (h1 pa0_0 r20_1 (((((pa0_0.fSlots.getD x29_1.toNat default).getD r35_9.toNat default).fPrefix) ++ form12_1) ++ (((pa0_0.fSlots.getD x29_1.toNat default).getD r35_9.toNat default).fSuffix)) (IntKind.i64.wrap (x29_1 + 1)))
             none)
           none)
         none)
       none)
     (h1 pa0_0 r20_1 form12_1 (IntKind.i64.wrap (x29_1 + 1))))
   (h2 form12_1)
noncomputable def l1 (M : Nat) : Nat → Ht1
  | 0, _, _, _, _ => none
  | k + 1, pa0_0, r20_1, form12_1, x29_1 => s1 M (l1 M k) (j2 M) pa0_0 r20_1 form12_1 x29_1
noncomputable def s (M : Nat) (h1 : Ht1) (pa0_0 : api_Paradigm) (stema1_0 : (List UInt8)) (inherenta2_0 : (List api_Feature)) (cella3_0 : (List api_Feature)) : Option Rt :=
  Option.bind (paradigm_Merge M pa0_0 cella3_0 inherenta2_0) fun r20_1 =>
  cond (!r20_1.2)
   (some ([], 1))
   (h1 pa0_0 r20_1 stema1_0 0)
end paradigm_Underlying
noncomputable def paradigm_Underlying (M : Nat) (pa0_0 : api_Paradigm) (stema1_0 : (List UInt8)) (inherenta2_0 : (List api_Feature)) (cella3_0 : (List api_Feature)) : Option ((List UInt8) × Int) :=
  paradigm_Underlying.s M (paradigm_Underlying.l1 M M) pa0_0 stema1_0 inherenta2_0 cella3_0
namespace paradigm_Underlying
noncomputable def S2 (form12_2 : (List UInt8)) : St E :=
  mkSt 58 58 [(12, .one (.tv (.str form12_2)))] [] 0 [] [] false
noncomputable def S1 (pa0_0 : api_Paradigm) (r20_1 : (List api_Feature) × Bool) (form12_1 : (List UInt8)) (x29_1 : Int) : St E :=
  mkSt 58 58 [(4, .one (.ptr 4 0)), (10, .one (.tok (100010, 0, 45) (.st .api_Feature) r20_1.1)), (12, .one (.tv (.str form12_1))), (28, .one (.tv (.int .i64 (pa0_0.fSlots.length : Int)))), (29, .one (.tv (.int .i64 x29_1)))] [(4, .cells [.tv (.str pa0_0.fName), .tv (.sl (.st .api_Dimension) pa0_0.fDimensions), .tv (.sl (.sl (.st .api_Affix)) pa0_0.fSlots)])] 0 [] [] false
noncomputable def K (M : Nat) : Cont E ((List UInt8) × Int) := kRet (C9 M) Tryd.f9.results.toList rs ex
noncomputable abbrev zA (M : Nat) (ZL : List Dir → Option (Ut)) (q : List Dir) : Ut := zAt (C9 M) (H M) M 0 ZL body plans (K M) q
noncomputable abbrev lA (M : Nat) (ZL : List Dir → Option (Ut)) (q : List Dir) (k : Nat) : Ut := lpAt (C9 M) (H M) M 0 ZL body plans (K M) q k
noncomputable abbrev gA (M : Nat) (Z : Zt) (q : List Dir) : Ut := seg (C9 M) (H M) 0 Z body plans (K M) q
set_option maxRecDepth 100000
theorem g2 (M : Nat) (Z : Zt) (form12_2 : (List UInt8)) : gA M Z Qt2 (S2 form12_2) = s2 M form12_2 := by kernel_rfl
theorem g1 (M : Nat) (Z : Zt) (pa0_0 : api_Paradigm) (r20_1 : (List api_Feature) × Bool) (form12_1 : (List UInt8)) (x29_1 : Int) : gA M Z Qt1 (S1 pa0_0 r20_1 form12_1 x29_1) = s1 M
    (fun pa0_0 r20_1 form12_1 x29_1 => Z Qt1 (S1 pa0_0 r20_1 form12_1 x29_1))
    (fun form12_2 => Z Qt2 (S2 form12_2)) pa0_0 r20_1 form12_1 x29_1 := by kernel_rfl
theorem g (M : Nat) (Z : Zt) (pa0_0 : api_Paradigm) (stema1_0 : (List UInt8)) (inherenta2_0 : (List api_Feature)) (cella3_0 : (List api_Feature)) : runZ (C9 M) (extZ (C9 M) (H M) 0) Z body plans (start (argHs ps (pa0_0, stema1_0, inherenta2_0, cella3_0)) Tryd.f9.ntmps 58) (K M) = s M
    (fun pa0_0 r20_1 form12_1 x29_1 => Z Qt1 (S1 pa0_0 r20_1 form12_1 x29_1)) pa0_0 stema1_0 inherenta2_0 cella3_0 := by kernel_rfl
theorem e2 (M : Nat) (form12_2 : (List UInt8)) : zA M (zlq Qt2 []) Qt2 (S2 form12_2) = j2 M form12_2 := by
  refine (seg_join (Hok M) 0 Qt2 body plans (K M) _ (S2 form12_2) (around_zlq _ _ (by kernel_rfl)) (by kernel_rfl)).trans ?_
  refine (g2 M _ form12_2).trans ?_
  rfl
theorem el1 (M : Nat) (k : Nat) (pa0_0 : api_Paradigm) (r20_1 : (List api_Feature) × Bool) (form12_1 : (List UInt8)) (x29_1 : Int) : lA M (zlq Qt1 []) Qt1 k (S1 pa0_0 r20_1 form12_1 x29_1) = l1 M k pa0_0 r20_1 form12_1 x29_1 := by
  induction k generalizing pa0_0 r20_1 form12_1 x29_1 with
  | zero => kernel_rfl
  | succ k ih =>
    refine Eq.trans (b := lA M (zlq Qt1 [lA M (zlq Qt1 []) Qt1 k]) Qt1 (k + 1) (S1 pa0_0 r20_1 form12_1 x29_1)) (by kernel_rfl) ?_
    refine (seg_loop (Hok M) 0 Qt1 body plans (K M) _ (S1 pa0_0 r20_1 form12_1 x29_1) (around_zlq _ _ (by kernel_rfl)) (by kernel_rfl) (by kernel_rfl)).trans ?_
    refine (g1 M _ pa0_0 r20_1 form12_1 x29_1).trans ?_
    have x0 := (funext fun pa0_0 => funext fun r20_1 => funext fun form12_1 => funext fun x29_1 => Eq.trans (b := lA M (zlq Qt1 []) Qt1 k (S1 pa0_0 r20_1 form12_1 x29_1)) (by kernel_rfl) (ih pa0_0 r20_1 form12_1 x29_1) : (fun pa0_0 r20_1 form12_1 x29_1 => zA M (zlq Qt1 [lA M (zlq Qt1 []) Qt1 k]) Qt1 (S1 pa0_0 r20_1 form12_1 x29_1)) = l1 M k)
    have x1 := (funext fun form12_2 => Eq.trans (b := zA M (zlq Qt2 []) Qt2 (S2 form12_2)) (by kernel_rfl) (e2 M form12_2) : (fun form12_2 => zA M (zlq Qt1 [lA M (zlq Qt1 []) Qt1 k]) Qt2 (S2 form12_2)) = j2 M)
    rw [x0, x1]; rfl
theorem e1 (M : Nat) (pa0_0 : api_Paradigm) (r20_1 : (List api_Feature) × Bool) (form12_1 : (List UInt8)) (x29_1 : Int) : zA M (zlq Qt1 []) Qt1 (S1 pa0_0 r20_1 form12_1 x29_1) = l1 M M pa0_0 r20_1 form12_1 x29_1 :=
  Eq.trans (b := lA M (zlq Qt1 []) Qt1 M (S1 pa0_0 r20_1 form12_1 x29_1)) (by kernel_rfl) (el1 M M pa0_0 r20_1 form12_1 x29_1)
theorem run (M : Nat) (pa0_0 : api_Paradigm) (stema1_0 : (List UInt8)) (inherenta2_0 : (List api_Feature)) (cella3_0 : (List api_Feature)) : runF (rs := rs) (C9 M) (X M) M body Tryd.f9.ntmps 58 Tryd.f9.results.toList plans ps ex (pa0_0, stema1_0, inherenta2_0, cella3_0) = paradigm_Underlying M pa0_0 stema1_0 inherenta2_0 cella3_0 := by
  refine Eq.trans (b := runC (C9 M) (X M) M body plans (start (argHs ps (pa0_0, stema1_0, inherenta2_0, cella3_0)) Tryd.f9.ntmps 58) (K M)) (by kernel_rfl) ?_
  refine (zrun (Hok M) 0 body plans _ (K M) (fun _ => none) fun _ => rfl).symm.trans ?_
  refine (g M _ pa0_0 stema1_0 inherenta2_0 cella3_0).trans ?_
  have x0 := (funext fun pa0_0 => funext fun r20_1 => funext fun form12_1 => funext fun x29_1 => Eq.trans (b := zA M (zlq Qt1 []) Qt1 (S1 pa0_0 r20_1 form12_1 x29_1)) (by kernel_rfl) (e1 M pa0_0 r20_1 form12_1 x29_1) : (fun pa0_0 r20_1 form12_1 x29_1 => zA M (fun _ => none) Qt1 (S1 pa0_0 r20_1 form12_1 x29_1)) = l1 M M)
  rw [x0]; rfl
noncomputable def sig (M : Nat) : Sig E := { ps := ps, rs := rs, ex := ex, fn := fun x => paradigm_Underlying M x.1 x.2.1 x.2.2.1 x.2.2.2 }
theorem says (M : Nat) : callable Tryd.prog 9 = true ∧ ∀ x y, (sig M).fn x = some y → Says Tryd.prog 9 (sig M) x y := by
  refine ⟨by kernel_rfl, fun x y h => ?_⟩
  refine says_of_run (S := sig M) (C := C9 M) (X := X M) (M := M) (q := 58) (plans := plans) (COk_Tryd) (SigOk_C9 M) (ItOk_C9 M) (by kernel_rfl) (callOk_ext COk_Tryd (SigOk_C9 M) (ItOk_C9 M) (by kernel_rfl) inl_ok.ok (RSigOk_C9 M) (fun _ => callOk_none) M 1) (Tryd.func9) (body := body) (by kernel_rfl) (by kernel_rfl) ?_
  obtain ⟨pa0_0, stema1_0, inherenta2_0, cella3_0⟩ := x
  exact (run M pa0_0 stema1_0 inherenta2_0 cella3_0).trans h
end paradigm_Underlying
end Go.Ai.Pav
end
namespace Go.Ai.Pav
open Go Go.Ai
variable {M : Nat}

/-! ### Merging -/
theorem unify_asc : ∀ {n : Nat} {a b r : List api_Feature}, Asc a → Asc b → unify n a b = some r → (∀ f ∈ r, f ∈ a ∨ f ∈ b) ∧ Asc r ∧ r.length ≤ a.length + b.length
  | 0, _, _, _, _, _, h => by cases h
  | n + 1, [], b, r, _, hb, h => by
    simp only [unify, Option.some.injEq] at h
    subst h
    exact ⟨fun f hf => .inr hf, hb, by simp⟩
  | n + 1, x :: a, [], r, ha, _, h => by
    simp only [unify, Option.some.injEq] at h
    subst h
    exact ⟨fun f hf => .inl hf, ha, by simp⟩
  | n + 1, x :: a, y :: b, r, ha, hb, h => by
    obtain ⟨ha1, ha2⟩ := List.pairwise_cons.1 ha
    obtain ⟨hb1, hb2⟩ := List.pairwise_cons.1 hb
    simp only [unify] at h
    cases hxy : ltB x y with
    | true =>
      rw [hxy, cond_true, Option.map_eq_some_iff] at h
      obtain ⟨r', hr, rfl⟩ := h
      obtain ⟨h1, h2, h3⟩ := unify_asc ha2 hb hr
      refine ⟨fun f hf => ?_, List.pairwise_cons.2 ⟨fun f hf => ?_, h2⟩, by simp at h3 ⊢; omega⟩
      · rcases List.mem_cons.1 hf with rfl | hf
        · exact .inl (by simp)
        · rcases h1 f hf with h | h
          · exact .inl (List.mem_cons_of_mem _ h)
          · exact .inr h
      · rcases h1 f hf with h | h
        · exact ha1 f h
        · rcases List.mem_cons.1 h with rfl | h
          · exact hxy
          · exact bl_trans hxy (hb1 f h)
    | false =>
      rw [hxy, cond_false] at h
      cases hyx : ltB y x with
      | true =>
        rw [hyx, cond_true, Option.map_eq_some_iff] at h
        obtain ⟨r', hr, rfl⟩ := h
        obtain ⟨h1, h2, h3⟩ := unify_asc ha hb2 hr
        refine ⟨fun f hf => ?_, List.pairwise_cons.2 ⟨fun f hf => ?_, h2⟩, by simp at h3 ⊢; omega⟩
        · rcases List.mem_cons.1 hf with rfl | hf
          · exact .inr (by simp)
          · rcases h1 f hf with h | h
            · exact .inl h
            · exact .inr (List.mem_cons_of_mem _ h)
        · rcases h1 f hf with h | h
          · rcases List.mem_cons.1 h with rfl | h
            · exact hyx
            · exact bl_trans hyx (ha1 f h)
          · exact hb1 f h
      | false =>
        rw [hyx, cond_false] at h
        by_cases hv : x.fValue = y.fValue
        · rw [cpos hv, Option.map_eq_some_iff] at h
          obtain ⟨r', hr, rfl⟩ := h
          obtain ⟨h1, h2, h3⟩ := unify_asc ha2 hb2 hr
          have hn : x.fName = y.fName := bl_tri hxy hyx
          refine ⟨fun f hf => ?_, List.pairwise_cons.2 ⟨fun f hf => ?_, h2⟩, by simp at h3 ⊢; omega⟩
          · rcases List.mem_cons.1 hf with rfl | hf
            · exact .inl (by simp)
            · rcases h1 f hf with h | h
              · exact .inl (List.mem_cons_of_mem _ h)
              · exact .inr (List.mem_cons_of_mem _ h)
          · rcases h1 f hf with h | h
            · exact ha1 f h
            · unfold ltB; rw [hn]; exact hb1 f h
        · rw [cneg hv] at h; cases h

def mergeS (ds : List api_Dimension) (cell inh : List api_Feature) : Option (List api_Feature) := cond (decide (0 ≤ numR ds cell) && isValid inh) (refU cell inh) none

theorem valid_asc {r : List api_Feature} (h : isValid r = true) : Asc r ∧ r.length ≤ 8 := by
  simp only [isValid, Bool.and_eq_true, decide_eq_true_eq] at h
  exact ⟨isRec_iff.1 h.1.2, h.2⟩

theorem paradigm_Merge_eq (hM : 1048576 < M) {p : api_Paradigm} (hd : okDims p.fDimensions) {cell inh : List api_Feature} (hc : cell.length ≤ 1048576) (hi : okR inh) : paradigm_Merge M p cell inh = some (pairOf (mergeS p.fDimensions cell inh)) := by
  simp only [paradigm_Merge, paradigm_Merge.s, paradigm_Number_eq hM hd hc, Option.bind_some, mergeS, numP_numR]
  by_cases h : 0 ≤ numR p.fDimensions cell
  · obtain ⟨h1, h2, h3, _⟩ := num_cells h
    rw [cneg (by omega), feature_Valid_eq hM hi]
    simp only [Option.bind_some, h, decide_true, Bool.true_and]
    cases hv : isValid inh with
    | false => rfl
    | true =>
      obtain ⟨g1, g2⟩ := valid_asc hv
      simp only [Bool.not_true, cond_false, cond_true]
      rw [feature_Unify_eq hM (by omega), unify_ref M cell inh h1 g1 (by omega)]
      rfl
  · rw [cpos (by omega)]; simp [h, pairOf]

theorem merge_asc {ds : List api_Dimension} {cell inh m : List api_Feature} (h : mergeS ds cell inh = some m) : Asc m ∧ m.length ≤ 12 := by
  unfold mergeS at h
  by_cases h0 : 0 ≤ numR ds cell
  · cases hv : isValid inh with
    | false => rw [hv] at h; simp at h
    | true =>
      obtain ⟨h1, h2, h3, _⟩ := num_cells h0
      obtain ⟨g1, g2⟩ := valid_asc hv
      rw [hv] at h
      simp only [h0, decide_true, Bool.and_self, cond_true] at h
      rw [← unify_ref (cell.length + inh.length + 1) cell inh h1 g1 (by omega)] at h
      obtain ⟨_, h4, h5⟩ := unify_asc h1 g1 h
      exact ⟨h4, by omega⟩
  · simp [h0] at h

/-! ### Choosing -/
def okAffix (x : api_Affix) : Prop := okR x.fWhen ∧ x.fWhen.length < 1048576 ∧ x.fPrefix.length ≤ 1048576 ∧ x.fSuffix.length ≤ 1048576
def okSlots (ss : List (List api_Affix)) : Prop := ss.length ≤ 1048576 ∧ ∀ s ∈ ss, s.length ≤ 1048576 ∧ ∀ x ∈ s, okAffix x

def chosenS (sub : List api_Feature → List api_Feature → Bool) (ss : List (List api_Affix)) (slot : Int) (r : List api_Feature) : Int :=
  cond (decide (0 ≤ slot) && decide (slot < (ss.length : Int))) (fstIdx (fun x : api_Affix => sub x.fWhen r) (ss.getD slot.toNat default) 0) (-1)

def mkE : Nat → List api_Affix → List feature_entry_int
  | _, [] => []
  | i, x :: xs => ⟨x.fWhen, (i : Int)⟩ :: mkE (i + 1) xs

theorem mkE_length : ∀ (i : Nat) (xs : List api_Affix), (mkE i xs).length = xs.length
  | _, [] => rfl
  | i, x :: xs => by simp [mkE, mkE_length]

theorem mkE_mem : ∀ {i : Nat} {xs : List api_Affix} {e : feature_entry_int}, e ∈ mkE i xs → ∃ x ∈ xs, e.fwhen = x.fWhen
  | _, [], _, h => by cases h
  | i, x :: xs, e, h => by
    simp only [mkE, List.mem_cons] at h
    rcases h with rfl | h
    · exact ⟨x, by simp, rfl⟩
    · obtain ⟨y, hy, e⟩ := mkE_mem h
      exact ⟨y, List.mem_cons_of_mem _ hy, e⟩

theorem mkE_find (r : List api_Feature) : ∀ (i : Nat) (xs : List api_Affix), cond ((mkE i xs).find? fun e => subsP e.fwhen r).isSome ((((mkE i xs).find? fun e => subsP e.fwhen r).map (·.fvalue)).getD 0) (-1) = fstIdx (fun x : api_Affix => subsP x.fWhen r) xs i
  | _, [] => rfl
  | i, x :: xs => by
    simp only [mkE, List.find?_cons, fstIdx]
    cases h : subsP x.fWhen r with
    | true => simp
    | false => simpa using mkE_find r (i + 1) xs

theorem paradigm_Chosen_eq (hM : 1048576 < M) {p : api_Paradigm} (hs : okSlots p.fSlots) {r : List api_Feature} (hr : r.length ≤ 1048576) (slot : Int) : paradigm_Chosen M p slot r = some (chosenS subsP p.fSlots slot r) := by
  unfold paradigm_Chosen paradigm_Chosen.s chosenS
  by_cases h0 : slot < 0
  · rw [cpos h0, cneg2 (by omega)]
  · rw [cneg h0]
    by_cases h1 : (p.fSlots.length : Int) ≤ slot
    · rw [cpos h1, cneg2 (by omega)]
    · rw [cneg h1, cpos2 (by omega) (by omega), cpos2 (by omega) (by omega)]
      obtain ⟨hl, hx⟩ := hs.2 (p.fSlots.getD slot.toNat default) (getD_mem (by omega))
      generalize hS : p.fSlots.getD slot.toNat default = S at *
      have key := overJ (xs := S) (f := fun k i (es : List feature_entry_int) => paradigm_Chosen.l1 M k r p slot i es) (g := fun i t es => paradigm_Chosen.j2 M r (es ++ mkE i t)) (I := fun i es => es.length = i) (fun k es _ => by
        simp only [paradigm_Chosen.l1, paradigm_Chosen.s1, hS, ↓cneg (Int.lt_irrefl _), mkE, List.append_nil]) (fun k i x t es hi hes hxi _ _ ih => by
        obtain ⟨a1, a2, _, _⟩ := hx x (by rw [← hxi]; exact getD_mem hi)
        simp (disch := first | omega | (simp only [len, len0]; omega)) only [paradigm_Chosen.l1, paradigm_Chosen.s1, hS, Int.toNat_natCast, ↓cpos, ↓cpos2, hxi, slices_Clone_eq a1.1, Option.bind_some, wsucc]
        rw [ih _ (by simp [hes])]
        simp [mkE]) (k := M) (by omega) (s := []) rfl
      refine key.trans ?_
      simp only [List.nil_append, paradigm_Chosen.j2, paradigm_Chosen.s2]
      rw [find_eq hM hr (by rw [mkE_length]; exact hl) (fun e he => by
        obtain ⟨x, hx1, e1⟩ := mkE_mem he
        unfold okE
        rw [e1]
        exact (hx x hx1).2.1)]
      simp only [Option.bind_some]
      rw [← mkE_find r 0 S]
      cases ((mkE 0 S).find? fun e => subsP e.fwhen r).isSome <;> rfl

theorem chosenS_lt (sub : List api_Feature → List api_Feature → Bool) (ss : List (List api_Affix)) (slot : Int) (r : List api_Feature) : chosenS sub ss slot r < ((ss.getD slot.toNat default).length : Int) ∨ chosenS sub ss slot r = -1 := by
  unfold chosenS
  by_cases h : 0 ≤ slot ∧ slot < (ss.length : Int)
  · rw [cpos2 h.1 h.2]; exact .inl (fstIdx_lt _ _)
  · rw [cneg2 h]; exact .inr rfl

/-- The When of every affix is a record. -/
def ascSlots (ss : List (List api_Affix)) : Prop := ∀ s ∈ ss, ∀ x ∈ s, Asc x.fWhen

theorem chosen_same {ss : List (List api_Affix)} (h : ascSlots ss) {r : List api_Feature} (hr : Asc r) (slot : Int) : chosenS subsP ss slot r = chosenS subs ss slot r := by
  unfold chosenS
  by_cases hs : 0 ≤ slot ∧ slot < (ss.length : Int)
  · rw [cpos2 hs.1 hs.2, cpos2 hs.1 hs.2]
    exact fstIdx_congr 0 fun x hx => subsP_eq (h _ (getD_mem (by omega)) x hx) hr
  · rw [cneg2 hs, cneg2 hs]

/-! ### Underlying forms -/
theorem utf8_RuneCount_eq {s : List UInt8} (hs : s.length < M) (hM : M ≤ 1099511627776) : unicode_utf8_RuneCountInString M s = some (runes s : Int) :=
  runes_loop (s := s) (f := fun k n p => unicode_utf8_RuneCountInString.l1 M k s n p) (g := fun n => some (n : Int)) (by omega) (fun k n p h => by
    simp only [unicode_utf8_RuneCountInString.l1, unicode_utf8_RuneCountInString.s1]; rw [cpos h]) (fun k n p h => by
    simp only [unicode_utf8_RuneCountInString.l1, unicode_utf8_RuneCountInString.s1]; rw [cneg h]) s.length M 0 0 (by omega) hs (by omega)

def pickA (r : List api_Feature) (s : List api_Affix) : Option api_Affix := s.find? fun x => subs x.fWhen r
def wrapA (r : List api_Feature) (s : List api_Affix) (f : List UInt8) : List UInt8 := match pickA r s with
  | some x => (x.fPrefix ++ f) ++ x.fSuffix
  | none => f
def formS (r : List api_Feature) : List (List api_Affix) → List UInt8 → List UInt8
  | [], f => f
  | s :: ss, f => formS r ss (wrapA r s f)

def szA (s : List api_Affix) : Nat := (s.map fun x => x.fPrefix.length + x.fSuffix.length).sum
def szS (ss : List (List api_Affix)) : Nat := (ss.map szA).sum

theorem fst_find {α : Type} [Inhabited α] (p : α → Bool) : ∀ (xs : List α), (xs.find? p = none ∧ fstIdx p xs 0 = -1) ∨ ∃ j : Nat, j < xs.length ∧ fstIdx p xs 0 = (j : Int) ∧ xs.find? p = some (xs.getD j default) := by
  intro xs
  have key : ∀ (xs : List α) (i : Nat), (xs.find? p = none ∧ fstIdx p xs i = -1) ∨ ∃ j : Nat, j < xs.length ∧ fstIdx p xs i = ((i + j : Nat) : Int) ∧ xs.find? p = some (xs.getD j default) := by
    intro xs
    induction xs with
    | nil => intro i; exact .inl ⟨rfl, rfl⟩
    | cons x xs ih =>
      intro i
      simp only [fstIdx, List.find?_cons]
      cases h : p x with
      | true => exact .inr ⟨0, by simp, by simp, by simp⟩
      | false =>
        rcases ih (i + 1) with ⟨h1, h2⟩ | ⟨j, h1, h2, h3⟩
        · exact .inl ⟨by simpa using h1, by simpa using h2⟩
        · exact .inr ⟨j + 1, by simp only [List.length_cons]; omega, by rw [cond_false, h2]; omega, by simpa using h3⟩
  simpa using key xs 0

theorem wrapA_length (r : List api_Feature) (s : List api_Affix) (f : List UInt8) : (wrapA r s f).length ≤ f.length + szA s := by
  unfold wrapA
  split
  · rename_i x hx
    have hm : x ∈ s := List.mem_of_find?_eq_some hx
    have := sum_mem (fun x : api_Affix => x.fPrefix.length + x.fSuffix.length) hm
    unfold szA
    simp only [List.length_append]
    omega
  · omega

theorem formS_length (r : List api_Feature) : ∀ (ss : List (List api_Affix)) (f : List UInt8), (formS r ss f).length ≤ f.length + szS ss
  | [], f => by simp [formS]
  | s :: ss, f => by
    have h1 := formS_length r ss (wrapA r s f)
    have h2 := wrapA_length r s f
    simp only [formS, szS, List.map_cons, List.sum_cons] at h1 ⊢
    omega

def underS (ds : List api_Dimension) (ss : List (List api_Affix)) (stem : List UInt8) (inh cell : List api_Feature) : List UInt8 × Int := match mergeS ds cell inh with
  | none => ([], 1)
  | some m => cond (decide (40 < (runes (formS m ss stem) : Int))) ([], 2) (formS m ss stem, 0)

theorem paradigm_Underlying_eq (hM : 1048576 < M) (hM2 : M ≤ 1099511627776) {p : api_Paradigm} (hd : okDims p.fDimensions) (hs : okSlots p.fSlots) (ha : ascSlots p.fSlots) {cell inh : List api_Feature} (hc : cell.length ≤ 1048576) (hi : okR inh) {stem : List UInt8} (hl : stem.length + szS p.fSlots < M) : paradigm_Underlying M p stem inh cell = some (underS p.fDimensions p.fSlots stem inh cell) := by
  simp only [paradigm_Underlying, paradigm_Underlying.s, paradigm_Merge_eq hM hd hc hi, Option.bind_some, underS]
  cases hm : mergeS p.fDimensions cell inh with
  | none => rfl
  | some m =>
    obtain ⟨m1, m2⟩ := merge_asc hm
    simp only [pairOf, Option.getD_some, Option.isSome_some, Bool.not_true, cond_false]
    have key := overJ (xs := p.fSlots) (f := fun k i (f : List UInt8) => paradigm_Underlying.l1 M k p (m, true) f i) (g := fun i t f => paradigm_Underlying.j2 M (formS m t f)) (I := fun i f => f.length + szS (p.fSlots.drop i) < M) (fun k f _ => by
      simp only [paradigm_Underlying.l1, paradigm_Underlying.s1, ↓cneg (Int.lt_irrefl _), formS]) (fun k i s t f hi' hf hx hdr ht ih => by
      rw [hdr] at hf
      have hmem : s ∈ p.fSlots := by rw [← hx]; exact getD_mem hi'
      obtain ⟨hsl, hsx⟩ := hs.2 s hmem
      have e0 : chosenS subs p.fSlots (i : Int) m = fstIdx (fun x : api_Affix => subs x.fWhen m) s 0 := by
        unfold chosenS
        rw [cpos2 (by omega) (by omega), Int.toNat_natCast, hx]
      have hw := wrapA_length m s f
      have hsz : szA s + szS t = szS (s :: t) := by simp [szS]
      simp (disch := omega) only [paradigm_Underlying.l1, paradigm_Underlying.s1, ↓cpos, paradigm_Chosen_eq hM hs (show m.length ≤ 1048576 by omega), chosen_same ha m1, Option.bind_some, e0, formS]
      rcases fst_find (fun x : api_Affix => subs x.fWhen m) s with ⟨h1, h2⟩ | ⟨j, h1, h2, h3⟩
      · have ew : wrapA m s f = f := by unfold wrapA pickA; rw [h1]
        rw [h2, cneg (by omega), wsucc (by have := hs.1; omega), ew]
        exact ih f (by rw [ht]; omega)
      · have ew : wrapA m s f = ((s.getD j default).fPrefix ++ f) ++ (s.getD j default).fSuffix := by unfold wrapA pickA; rw [h3]
        have hm2 := sum_mem (fun x : api_Affix => x.fPrefix.length + x.fSuffix.length) (getD_mem h1)
        have hm3 : (s.getD j default).fPrefix.length + (s.getD j default).fSuffix.length ≤ szA s := hm2
        rw [h2]
        have hil := hs.1
        simp (disch := first | omega | (simp only [len, len0]; omega)) only [↓cpos, ↓cpos2, Int.toNat_natCast, hx, wsucc]
        rw [← ew]
        exact ih _ (by rw [ht]; omega)) (k := M) (by have := hs.1; omega) (s := stem) (by simpa using hl)
    refine key.trans ?_
    have hfl := formS_length m p.fSlots stem
    simp only [paradigm_Underlying.j2, paradigm_Underlying.s2, utf8_RuneCount_eq (show (formS m p.fSlots stem).length < M by omega) hM2, Option.bind_some]
    by_cases h40 : 40 < (runes (formS m p.fSlots stem) : Int)
    · rw [cpos h40, cpos h40]
    · rw [cneg h40, cneg h40]

end Go.Ai.Pav
namespace Go.Ai.Pav
open Go Go.Ai
variable {M : Nat}

theorem tot {α : Type} {x : Option α} (d : α) (h : ∃ r, x = some r) : x = some (x.getD d) := by
  obtain ⟨r, rfl⟩ := h
  rfl

/-! ### Alphabets and words: that they answer -/
theorem ref06_Index_tot (hM : 1048576 < M) {a : List api_Letter} (hl : a.length ≤ 1048576) (r : Int) : ∃ n, pentaglotref06_Index M a r = some n ∧ n < (a.length : Int) := by
  refine ⟨fstIdx (fun x : api_Letter => decide (x.fRune = r)) a 0, ?_, fstIdx_lt _ _⟩
  exact overI (xs := a) (f := fun k i (_ : Unit) => pentaglotref06_Index.l1 M k a r i) (g := fun i t _ => some (fstIdx (fun x : api_Letter => decide (x.fRune = r)) t i)) (fun k _ => by
    simp only [pentaglotref06_Index.l1, pentaglotref06_Index.s1, ↓cneg (Int.lt_irrefl _), fstIdx]) (fun k i x t _ hi hx _ _ ih => by
    have ih := ih ()
    simp (disch := omega) only [pentaglotref06_Index.l1, pentaglotref06_Index.s1, ↓cpos, ↓cpos2, Int.toNat_natCast, hx, wsucc, ih, fstIdx]
    cases decide (x.fRune = r) <;> rfl) (by omega) ()

theorem ref06_code_tot (r : Int) : ∃ b, pentaglotref06_code M r = some b := by
  unfold pentaglotref06_code pentaglotref06_code.s
  by_cases h1 : 32 < r
  · rw [cpos h1]
    by_cases h2 : r < 55296
    · rw [cpos h2]; exact ⟨_, rfl⟩
    · rw [cneg h2]
      by_cases h3 : 57343 < r
      · rw [cpos h3]; exact ⟨_, rfl⟩
      · rw [cneg h3]; exact ⟨_, rfl⟩
  · rw [cneg h1]; exact ⟨_, rfl⟩

theorem ref06_Proper_tot (hM : 1048576 < M) {a : List api_Letter} : ∃ b, pentaglotref06_Proper M a = some b := by
  unfold pentaglotref06_Proper pentaglotref06_Proper.s
  by_cases h : 65 < (a.length : Int)
  · rw [cpos h]; exact ⟨_, rfl⟩
  · rw [cneg h]
    have key : ∀ (d k i : Nat), i + d = a.length → d < k → ∃ b, pentaglotref06_Proper.l1 M k a i = some b := by
      intro d
      induction d with
      | zero =>
        intro k i hi hk
        obtain ⟨k, rfl⟩ := Nat.exists_eq_succ_of_ne_zero (by omega : k ≠ 0)
        simp (disch := omega) only [Nat.succ_eq_add_one, pentaglotref06_Proper.l1, pentaglotref06_Proper.s1, ↓cneg]
        exact ⟨_, rfl⟩
      | succ d ih =>
        intro k i hi hk
        obtain ⟨k, rfl⟩ := Nat.exists_eq_succ_of_ne_zero (by omega : k ≠ 0)
        obtain ⟨b, hb⟩ := ref06_code_tot (M := M) (a.getD i default).fRune
        obtain ⟨n, hn, _⟩ := ref06_Index_tot hM (a := a.take i) (by rw [List.length_take]; omega) (a.getD i default).fRune
        simp (disch := omega) only [Nat.succ_eq_add_one, pentaglotref06_Proper.l1, pentaglotref06_Proper.s1, ↓cpos, ↓cpos2, Int.toNat_natCast, hb, hn, Option.bind_some, wsucc]
        cases b with
        | false => exact ⟨_, rfl⟩
        | true =>
          simp only [Bool.not_true, cond_false]
          by_cases h0 : 0 ≤ n
          · rw [cpos h0]; exact ⟨_, rfl⟩
          · rw [cneg h0]; exact ih k (i + 1) (by omega) (by omega)
    exact key a.length M 0 (by omega) (by omega)

theorem ref10_Alphabet_tot (hM : 1048576 < M) {a : List api_Letter} : ∃ b, pentaglotref10_Alphabet M a = some b := by
  unfold pentaglotref10_Alphabet pentaglotref10_Alphabet.s
  by_cases h1 : 1 ≤ (a.length : Int)
  · rw [cpos h1]
    by_cases h2 : (a.length : Int) ≤ 64
    · rw [cpos h2]
      obtain ⟨b, hb⟩ := ref06_Proper_tot hM (a := a)
      rw [hb]; exact ⟨_, rfl⟩
    · rw [cneg h2]; exact ⟨_, rfl⟩
  · rw [cneg h1]; exact ⟨_, rfl⟩

theorem ref06_Over_tot (hM : 1048576 < M) {a : List api_Letter} (ha : a.length ≤ 1048576) {s : List UInt8} (hs : s.length ≤ 1048576) : ∃ r, pentaglotref06_Over M a s = some r := by
  have key : ∀ (q k p : Nat) (out : List Int) (back : List UInt8), s.length - p ≤ q → q < k → out.length ≤ p → back.length ≤ 4 * p → out.length ≤ 1048576 → back.length ≤ 4194304 → ∃ r, pentaglotref06_Over.l1 M k a s out back p = some r := by
    intro q
    induction q with
    | zero =>
      intro k p out back h hk ho hb _ _
      obtain ⟨k, rfl⟩ := Nat.exists_eq_succ_of_ne_zero (by omega : k ≠ 0)
      simp (disch := omega) only [Nat.succ_eq_add_one, pentaglotref06_Over.l1, pentaglotref06_Over.s1, ↓cneg]
      exact ⟨_, rfl⟩
    | succ q ih =>
      intro k p out back h hk ho hb ho2 hb2
      obtain ⟨k, rfl⟩ := Nat.exists_eq_succ_of_ne_zero (by omega : k ≠ 0)
      simp only [Nat.succ_eq_add_one, pentaglotref06_Over.l1, pentaglotref06_Over.s1]
      by_cases hp : p < s.length
      · rw [cpos hp]
        have hd := dec_pos s p
        have he := enc_length ((dec s p).1 : Int)
        obtain ⟨n, hn, _⟩ := ref06_Index_tot hM ha ((dec s p).1 : Int)
        rw [hn, Option.bind_some]
        by_cases h0 : n < 0
        · rw [cpos h0]; exact ⟨_, rfl⟩
        · rw [cneg h0, cpos (by simp only [len, len0]; omega), cpos (by omega)]
          exact ih k _ _ _ (by omega) (by omega) (by simp; omega) (by simp; omega) (by simp; omega) (by simp; omega)
      · rw [cneg hp]; exact ⟨_, rfl⟩
  exact key s.length M 0 [] [] (by omega) (by omega) (by simp) (by simp) (by simp) (by simp)

theorem ref10_Word_tot (hM : 1048576 < M) {a : List api_Letter} (ha : a.length ≤ 1048576) {s : List UInt8} (hs : s.length ≤ 1048576) : ∃ b, pentaglotref10_Word M a s = some b := by
  obtain ⟨r, hr⟩ := ref06_Over_tot hM ha hs
  unfold pentaglotref10_Word pentaglotref10_Word.s
  rw [hr, Option.bind_some]
  cases r.2 <;> exact ⟨_, rfl⟩

/-! ### Valid paradigms -/
noncomputable def affB (M : Nat) (a : List api_Letter) (x : api_Affix) : Bool := isValid x.fWhen && ((pentaglotref10_Word M a x.fPrefix).getD false && (pentaglotref10_Word M a x.fSuffix).getD false)
noncomputable def slotB (M : Nat) (a : List api_Letter) (s : List api_Affix) : Bool := decide (s.length ≤ 64) && s.all (affB M a)
noncomputable def validB (M : Nat) (a : List api_Letter) (p : api_Paradigm) : Bool := (pentaglotref10_Alphabet M a).getD false && (isName p.fName && (dimsOk p.fDimensions && (decide (p.fSlots.length ≤ 8) && p.fSlots.all (slotB M a))))

theorem ref10_Valid_eq (hM : 1048576 < M) {a : List api_Letter} (ha : a.length ≤ 1048576) {p : api_Paradigm} (hn : p.fName.length ≤ 1048576) (hd : okDims p.fDimensions) (hs : okSlots p.fSlots) : pentaglotref10_Valid M a p = some (validB M a p) := by
  unfold pentaglotref10_Valid pentaglotref10_Valid.s validB
  rw [tot false (ref10_Alphabet_tot hM (a := a)), ref02_Name_eq hM hn, ref02_Dimensions_eq hM hd]
  simp only [Option.bind_some, Option.getD_some, cnot]
  cases (pentaglotref10_Alphabet M a).getD false with
  | false => rfl
  | true =>
    cases isName p.fName with
    | false => rfl
    | true =>
      cases dimsOk p.fDimensions with
      | false => rfl
      | true =>
        simp only [cond_true, Bool.true_and]
        by_cases h8 : p.fSlots.length ≤ 8
        · rw [cneg (by omega)]
          simp only [h8, decide_true, Bool.true_and]
          have inner : ∀ (h1 : List api_Letter → api_Paradigm → Int → Option Bool) (i : Nat) (s : List api_Affix), i < p.fSlots.length → p.fSlots.getD i default = s → pentaglotref10_Valid.l2 M h1 M a i p 0 = cond (s.all (affB M a)) (h1 a p ((i + 1 : Nat) : Int)) (some false) := by
            intro h1 i s hi hsi
            obtain ⟨hl, hx⟩ := hs.2 s (by rw [← hsi]; exact getD_mem hi)
            exact over (xs := s) (f := fun k j (_ : Unit) => pentaglotref10_Valid.l2 M h1 k a i p j) (g := fun t _ => cond (t.all (affB M a)) (h1 a p ((i + 1 : Nat) : Int)) (some false)) (fun k _ => by
              simp (disch := omega) only [pentaglotref10_Valid.l2, pentaglotref10_Valid.s2, Int.toNat_natCast, ↓cpos2, hsi, ↓cneg (Int.lt_irrefl _), List.all_nil, cond_true, wsucc]) (fun k j x t _ hj hxj ih => by
              have ih := ih ()
              obtain ⟨a1, a2, a3, a4⟩ := hx x (by rw [← hxj]; exact getD_mem hj)
              simp (disch := omega) only [pentaglotref10_Valid.l2, pentaglotref10_Valid.s2, Int.toNat_natCast, ↓cpos, ↓cpos2, hsi, hxj, ref02_Valid_eq hM a1, Option.bind_some, wsucc, ih, cnot, List.all_cons]
              rw [tot false (ref10_Word_tot hM ha a3), tot false (ref10_Word_tot hM ha a4)]
              simp only [Option.bind_some, affB, Option.getD_some]
              cases isValid x.fWhen <;> cases (pentaglotref10_Word M a x.fPrefix).getD false <;> cases (pentaglotref10_Word M a x.fSuffix).getD false <;> rfl) (k := M) (by omega) ()
          exact over (xs := p.fSlots) (f := fun k i (_ : Unit) => pentaglotref10_Valid.l1 M k a p i) (g := fun t _ => some (t.all (slotB M a))) (fun k _ => by
            simp only [pentaglotref10_Valid.l1, pentaglotref10_Valid.s1, ↓cneg (Int.lt_irrefl _), List.all_nil]) (fun k i s t _ hi hsi ih => by
            have ih := ih ()
            simp (disch := omega) only [pentaglotref10_Valid.l1, pentaglotref10_Valid.s1, Int.toNat_natCast, ↓cpos, ↓cpos2, hsi, inner _ i s hi hsi, ih, List.all_cons, slotB]
            by_cases h64 : s.length ≤ 64
            · rw [cneg (by omega)]
              simp only [h64, decide_true, Bool.true_and]
              cases s.all (affB M a) <;> rfl
            · rw [cpos (by omega)]; simp [h64]) (k := M) (by omega) ()
        · rw [cpos (by omega)]; simp [h8]

def smallB (p : api_Paradigm) : Bool := decide (count p.fDimensions ≤ 16) && (decide (p.fSlots.length ≤ 4) && p.fSlots.all fun s => decide (s.length ≤ 6))

/-- The size of what is read, as the laws need it. -/
structure OkP (p : api_Paradigm) : Prop where
  name : p.fName.length ≤ 1048576
  dims : okDims p.fDimensions
  slots : okSlots p.fSlots
  size : szS p.fSlots ≤ 1048576

noncomputable def okB (M : Nat) (a : List api_Letter) (p : api_Paradigm) : Bool := validB M a p && smallB p

theorem validB_facts {a : List api_Letter} {p : api_Paradigm} (h : validB M a p = true) : dimsOk p.fDimensions = true ∧ p.fSlots.length ≤ 8 ∧ ascSlots p.fSlots ∧ ∀ s ∈ p.fSlots, s.length ≤ 64 := by
  simp only [validB, Bool.and_eq_true, decide_eq_true_eq, List.all_eq_true, slotB, affB] at h
  obtain ⟨_, _, h1, h2, h3⟩ := h
  exact ⟨h1, h2, fun s hs x hx => (valid_asc ((h3 s hs).2 x hx).1).1, fun s hs => (h3 s hs).1⟩

theorem okB_facts {a : List api_Letter} {p : api_Paradigm} (h : okB M a p = true) : dimsOk p.fDimensions = true ∧ ascSlots p.fSlots ∧ count p.fDimensions ≤ 16 ∧ p.fSlots.length ≤ 4 ∧ ∀ s ∈ p.fSlots, s.length ≤ 6 := by
  simp only [okB, Bool.and_eq_true] at h
  obtain ⟨h1, _, h3, _⟩ := validB_facts h.1
  simp only [smallB, Bool.and_eq_true, decide_eq_true_eq, List.all_eq_true] at h
  exact ⟨h1, h3, h.2.1, h.2.2.1, h.2.2.2⟩

end Go.Ai.Pav
set_option linter.unusedVariables false
set_option linter.unusedSectionVars false
noncomputable section
namespace Go.Ai.Pav
open Go Go.Ai Go.Proofs
noncomputable def sigs11 (M : Nat) : List (Nat × Sig E) := [(23, paradigm_Merge.sig M), (24, paradigm_Chosen.sig M)]
noncomputable def rs11 (M : Nat) : List (Nat × Sig E) := []
noncomputable def its11 (M : Nat) : List (Nat × It E) := [(36, feature_All_1.it M)]
theorem sigs_ok11 (M : Nat) : SigsOk Tryd.prog (sigs11 M) := SigsOk.cons (paradigm_Merge.says M) (SigsOk.cons (paradigm_Chosen.says M) (SigsOk.nil))
theorem rs_ok11 (M : Nat) : SigsOk Tryd.prog (rs11 M) := SigsOk.nil
theorem its_ok11 (M : Nat) : ItsOk Tryd.prog (its11 M) := ItsOk.cons (feature_All_1.says M) (ItsOk.nil)
noncomputable def C11 (M : Nat) : Ctx E := { ti := fun t => tisE.lookup t, sig := fun f => (sigs11 M).lookup f, it := fun f => (its11 M).lookup f, nt := 85 }
theorem SigOk_C11 (M : Nat) : SigOk Tryd.prog (C11 M) := sigs_ok11 M
theorem RSigOk_C11 (M : Nat) : SigOk Tryd.prog ({ ti := fun _ => none, sig := fun f => (rs11 M).lookup f } : Ctx E) := rs_ok11 M
theorem ItOk_C11 (M : Nat) : ItOk Tryd.prog (C11 M) := (its_ok11 M).ok
namespace paradigm_Unused
noncomputable def plans : List (Option (Plan Nm)) := [none, none, none, some { tmps := [(2, .asis), (3, .asis), (4, .asis), (5, .asis)], boxes := [(2, [.asis, .asis, .asis]), (3, [.asis]), (5, [.asis]), (16, [])] }, none, some { tmps := [(2, .asis), (5, .asis), (6, .asis), (21, .asis), (22, .asis), (23, .asis)], boxes := [(2, [.asis, .asis, .asis]), (5, [.asis]), (3, [.asis]), (16, [])], outs := [(2, .asis), (3, .asis), (4, .asis), (5, .asis)] }, none, none, none, none, none, some { tmps := [(2, .asis), (5, .asis), (6, .asis), (9, .own (100009, 0, 45) (.st .api_Feature)), (10, .asis), (21, .asis), (22, .asis), (23, .asis), (36, .asis), (37, .asis)], boxes := [(2, [.asis, .asis, .asis]), (5, [.asis]), (3, [.asis]), (16, [])], outs := [(2, .asis), (3, .asis), (4, .asis), (5, .asis)] }, none, none, none, none, none, none, none, some { tmps := [(2, .asis), (5, .asis)], boxes := [(2, [.asis, .asis, .asis]), (5, [.asis]), (16, [])] }, none, none, some { tmps := [(2, .asis), (5, .asis), (13, .own (100013, 0, 41) (.st .arr2_Int)), (57, .asis), (58, .asis)], boxes := [(2, [.asis, .asis, .asis]), (5, [.asis]), (16, [])] }, none, none, none, none, some { tmps := [(2, .asis), (5, .asis), (13, .own (100013, 0, 41) (.st .arr2_Int)), (14, .asis), (57, .asis), (58, .asis), (66, .asis), (67, .asis)], boxes := [(2, [.asis, .asis, .asis]), (5, [.asis]), (16, [])] }, none, none, none, none, none, none, none, none]
noncomputable abbrev body : Code := bodyOf Tryd.f11
def ps : List (Ty Nm) := [(.st .api_Paradigm), (.sl (.sl (.st .api_Feature)))]
def rs : List (Ty Nm) := [(.sl (.st .arr2_Int))]
def ex : List (Option Nat) := [some 41]
noncomputable def inl : List (Nat × Nat × Nat × Inl Nm) := [(0, 19, 22, { off := 85, ntmps := Tryd.f22.ntmps, body := bodyOf Tryd.f22, res := Tryd.f22.results.toList, plans := [] })]
theorem inl_ok : InlsOk Tryd.prog inl := InlsOk.cons ⟨by kernel_rfl, _, Tryd.func22, by kernel_rfl, rfl, rfl⟩ (InlsOk.nil)
noncomputable def X (M : Nat) : Ext E (List arr2_Int) := extOf (C11 M) (inlOf inl) (fun f => (rs11 M).lookup f) (fun _ _ _ => none) noX M 2
abbrev Rt := (List arr2_Int)
noncomputable def H (M : Nat) : Hd E Rt := hd0 (X M)
theorem Hok (M : Nat) : (H M).ok (C11 M) M := hd0_ok _
abbrev Qt3 : List Dir := [.r, .r, .l, .r, .k, .L, .k, .r, .k, .L, .r, .r, .l, .k, .r, .r, .r, .k]
abbrev Ht3 := (List (List api_Feature)) → api_Paradigm → ((List api_Feature) × Bool) → Int → (List api_Feature) → (List ((List api_Feature))) → Int → (List (arr2_Int × Bool)) → Option Rt
abbrev Qt2 : List Dir := [.r, .r, .l, .r, .k, .L, .k, .r, .k]
abbrev Ht2 := (List (List api_Feature)) → api_Paradigm → (List api_Feature) → (List ((List api_Feature))) → Int → (List (arr2_Int × Bool)) → Option Rt
abbrev Qt6 : List Dir := [.r, .r, .r, .r, .l, .r, .k, .L, .r, .r, .l, .k, .r, .r, .k]
abbrev Ht6 := (List (arr2_Int × Bool)) → api_Paradigm → Int → (List arr2_Int) → Int → Option Rt
abbrev Qt5 : List Dir := [.r, .r, .r, .r, .l, .r, .k]
abbrev Ht5 := (List (arr2_Int × Bool)) → api_Paradigm → (List arr2_Int) → Int → Option Rt
abbrev Qt4 : List Dir := [.r, .r]
abbrev Ht4 := api_Paradigm → (List (arr2_Int × Bool)) → Option Rt
abbrev Qt1 : List Dir := [.r, .r, .l, .r, .k]
abbrev Ht1 := (List (List api_Feature)) → api_Paradigm → (List ((List api_Feature))) → (List (arr2_Int × Bool)) → Option Rt
abbrev Zt := List Dir → St E → Option Rt
abbrev Ut := St E → Option Rt
noncomputable def s3 (M : Nat) (h2 : Ht2) (h3 : Ht3) (inherenta1_0 : (List (List api_Feature))) (pa0_0 : api_Paradigm) (r31_158 : (List api_Feature) × Bool) (x23_2 : Int) (x900_1 : (List api_Feature)) (xs900_1 : List ((List api_Feature))) (x37_3 : Int) (m16_3 : (List (arr2_Int × Bool))) : Option Rt :=
  cond (decide (x37_3 < (pa0_0.fSlots.length : Int)))
   (Option.bind (paradigm_Chosen M pa0_0 x37_3 r31_158.1) fun r43_162 =>
    cond (r31_158.2)
     (cond (decide (0 ≤ r43_162))
       (h3 inherenta1_0 pa0_0 r31_158 x23_2 x900_1 xs900_1 (IntKind.i64.wrap (x37_3 + 1)) (mput (keyEq (E := E) (.st .arr2_Int)) m16_3 (arr2_Int.mk x37_3 r43_162) true))
       (h3 inherenta1_0 pa0_0 r31_158 x23_2 x900_1 xs900_1 (IntKind.i64.wrap (x37_3 + 1)) m16_3))
     (h3 inherenta1_0 pa0_0 r31_158 x23_2 x900_1 xs900_1 (IntKind.i64.wrap (x37_3 + 1)) m16_3))
   (h2 inherenta1_0 pa0_0 x900_1 xs900_1 (IntKind.i64.wrap (x23_2 + 1)) m16_3)
noncomputable def l3 (M : Nat) (h2 : Ht2) : Nat → Ht3
  | 0, _, _, _, _, _, _, _, _ => none
  | k + 1, inherenta1_0, pa0_0, r31_158, x23_2, x900_1, xs900_1, x37_3, m16_3 => s3 M h2 (l3 M h2 k) inherenta1_0 pa0_0 r31_158 x23_2 x900_1 xs900_1 x37_3 m16_3
noncomputable def s2 (M : Nat) (h1 : Ht1) (h3 : Ht3) (inherenta1_0 : (List (List api_Feature))) (pa0_0 : api_Paradigm) (x900_1 : (List api_Feature)) (xs900_1 : List ((List api_Feature))) (x23_2 : Int) (m16_2 : (List (arr2_Int × Bool))) : Option Rt :=
  cond (decide (x23_2 < (inherenta1_0.length : Int)))
   (cond (decide (0 ≤ x23_2) && decide (x23_2 < (inherenta1_0.length : Int)))
     (Option.bind (paradigm_Merge M pa0_0 x900_1 (inherenta1_0.getD x23_2.toNat default)) fun r31_158 =>
      h3 inherenta1_0 pa0_0 r31_158 x23_2 x900_1 xs900_1 0 m16_2)
     none)
   (h1 inherenta1_0 pa0_0 xs900_1 m16_2)
noncomputable def l2 (M : Nat) (h1 : Ht1) : Nat → Ht2
  | 0, _, _, _, _, _, _ => none
  | k + 1, inherenta1_0, pa0_0, x900_1, xs900_1, x23_2, m16_2 => s2 M h1 (l3 M (l2 M h1 k) M) inherenta1_0 pa0_0 x900_1 xs900_1 x23_2 m16_2
noncomputable def s6 (M : Nat) (h5 : Ht5) (h6 : Ht6) (m16_4 : (List (arr2_Int × Bool))) (pa0_0 : api_Paradigm) (x58_5 : Int) (out13_6 : (List arr2_Int)) (x67_6 : Int) : Option Rt :=
  cond (decide (x67_6 < ((pa0_0.fSlots.getD x58_5.toNat default).length : Int)))
   (cond (!((mget (keyEq (E := E) (.st .arr2_Int)) m16_4 (arr2_Int.mk x58_5 x67_6)).getD false))
     (cond (decide (out13_6.length + ([arr2_Int.mk x58_5 x67_6] : List arr2_Int).length ≤ lim))
       (h6 m16_4 pa0_0 x58_5 (out13_6 ++ [arr2_Int.mk x58_5 x67_6]) (IntKind.i64.wrap (x67_6 + 1)))
       none)
     (h6 m16_4 pa0_0 x58_5 out13_6 (IntKind.i64.wrap (x67_6 + 1))))
   (h5 m16_4 pa0_0 out13_6 (IntKind.i64.wrap (x58_5 + 1)))
noncomputable def l6 (M : Nat) (h5 : Ht5) : Nat → Ht6
  | 0, _, _, _, _, _ => none
  | k + 1, m16_4, pa0_0, x58_5, out13_6, x67_6 => s6 M h5 (l6 M h5 k) m16_4 pa0_0 x58_5 out13_6 x67_6
noncomputable def s5 (M : Nat) (h6 : Ht6) (m16_4 : (List (arr2_Int × Bool))) (pa0_0 : api_Paradigm) (out13_5 : (List arr2_Int)) (x58_5 : Int) : Option Rt :=
  cond (decide (x58_5 < (pa0_0.fSlots.length : Int)))
   (cond (decide (0 ≤ x58_5) && decide (x58_5 < (pa0_0.fSlots.length : Int)))
     (h6 m16_4 pa0_0 x58_5 out13_5 0)
     none)
   (some out13_5)
noncomputable def l5 (M : Nat) : Nat → Ht5
  | 0, _, _, _, _ => none
  | k + 1, m16_4, pa0_0, out13_5, x58_5 => s5 M (l6 M (l5 M k) M) m16_4 pa0_0 out13_5 x58_5
noncomputable def s4 (M : Nat) (h5 : Ht5) (pa0_0 : api_Paradigm) (m16_4 : (List (arr2_Int × Bool))) : Option Rt :=
  h5 m16_4 pa0_0 ([] : (List arr2_Int)) 0
noncomputable def j4 (M : Nat) (pa0_0 : api_Paradigm) (m16_4 : (List (arr2_Int × Bool))) : Option Rt :=
  s4 M (l5 M M) pa0_0 m16_4
noncomputable def s1 (M : Nat) (h2 : Ht2) (h4 : Ht4) (inherenta1_0 : (List (List api_Feature))) (pa0_0 : api_Paradigm) (it0_1 : (List ((List api_Feature)))) (m16_1 : (List (arr2_Int × Bool))) : Option Rt :=
  lcase it0_1
   (h4 pa0_0 m16_1)
   (fun x900_1 xs900_1 =>
    h2 inherenta1_0 pa0_0 x900_1 xs900_1 0 m16_1)
noncomputable def l1 (M : Nat) : Nat → Ht1
  | 0, _, _, _, _ => none
  | k + 1, inherenta1_0, pa0_0, it0_1, m16_1 => s1 M (l2 M (l1 M k) M) (j4 M) inherenta1_0 pa0_0 it0_1 m16_1
noncomputable def s (M : Nat) (h1 : Ht1) (pa0_0 : api_Paradigm) (inherenta1_0 : (List (List api_Feature))) : Option Rt :=
  Option.bind (feature_All_1 M pa0_0.fDimensions) fun ri36_82 =>
  h1 inherenta1_0 pa0_0 ri36_82 ([] : (List (arr2_Int × Bool)))
end paradigm_Unused
noncomputable def paradigm_Unused (M : Nat) (pa0_0 : api_Paradigm) (inherenta1_0 : (List (List api_Feature))) : Option (List arr2_Int) :=
  paradigm_Unused.s M (paradigm_Unused.l1 M M) pa0_0 inherenta1_0
namespace paradigm_Unused
noncomputable def S3 (inherenta1_0 : (List (List api_Feature))) (pa0_0 : api_Paradigm) (r31_158 : (List api_Feature) × Bool) (x23_2 : Int) (x900_1 : (List api_Feature)) (xs900_1 : List ((List api_Feature))) (x37_3 : Int) (m16_3 : (List (arr2_Int × Bool))) : St E :=
  mkSt 85 89 [(2, .one (.ptr 2 0)), (5, .one (.ptr 5 0)), (6, .one (.tv (.sl (.st .api_Feature) x900_1))), (9, .one (.tok (100009, 0, 45) (.st .api_Feature) r31_158.1)), (10, .one (.tv (.bool r31_158.2))), (21, .one (.tv (.sl (.sl (.st .api_Feature)) inherenta1_0))), (22, .one (.tv (.int .i64 (inherenta1_0.length : Int)))), (23, .one (.tv (.int .i64 x23_2))), (36, .one (.tv (.int .i64 (pa0_0.fSlots.length : Int)))), (37, .one (.tv (.int .i64 x37_3)))] [(2, .cells [.tv (.str pa0_0.fName), .tv (.sl (.st .api_Dimension) pa0_0.fDimensions), .tv (.sl (.sl (.st .api_Affix)) pa0_0.fSlots)]), (3, .cells [.tv (.sl (.sl (.st .api_Feature)) inherenta1_0)]), (5, .cells [.mp 16]), (16, .mp (.st .arr2_Int) .bool m16_3)] 85 [(2, .one (.ptr 2 0)), (3, .one (.ptr 3 0)), (4, .one (.tv (.val nilS))), (5, .one (.ptr 5 0))] [⟨[(.sl (.st .api_Feature))], xs900_1⟩] false
noncomputable def S2 (inherenta1_0 : (List (List api_Feature))) (pa0_0 : api_Paradigm) (x900_1 : (List api_Feature)) (xs900_1 : List ((List api_Feature))) (x23_2 : Int) (m16_2 : (List (arr2_Int × Bool))) : St E :=
  mkSt 85 89 [(2, .one (.ptr 2 0)), (5, .one (.ptr 5 0)), (6, .one (.tv (.sl (.st .api_Feature) x900_1))), (21, .one (.tv (.sl (.sl (.st .api_Feature)) inherenta1_0))), (22, .one (.tv (.int .i64 (inherenta1_0.length : Int)))), (23, .one (.tv (.int .i64 x23_2)))] [(2, .cells [.tv (.str pa0_0.fName), .tv (.sl (.st .api_Dimension) pa0_0.fDimensions), .tv (.sl (.sl (.st .api_Affix)) pa0_0.fSlots)]), (3, .cells [.tv (.sl (.sl (.st .api_Feature)) inherenta1_0)]), (5, .cells [.mp 16]), (16, .mp (.st .arr2_Int) .bool m16_2)] 85 [(2, .one (.ptr 2 0)), (3, .one (.ptr 3 0)), (4, .one (.tv (.val nilS))), (5, .one (.ptr 5 0))] [⟨[(.sl (.st .api_Feature))], xs900_1⟩] false
noncomputable def S6 (m16_4 : (List (arr2_Int × Bool))) (pa0_0 : api_Paradigm) (x58_5 : Int) (out13_6 : (List arr2_Int)) (x67_6 : Int) : St E :=
  mkSt 85 89 [(2, .one (.ptr 2 0)), (5, .one (.ptr 5 0)), (13, .one (.tok (100013, 0, 41) (.st .arr2_Int) out13_6)), (14, .one (.tv (.int .i64 x58_5))), (57, .one (.tv (.int .i64 (pa0_0.fSlots.length : Int)))), (58, .one (.tv (.int .i64 x58_5))), (66, .one (.tv (.int .i64 ((pa0_0.fSlots.getD x58_5.toNat default).length : Int)))), (67, .one (.tv (.int .i64 x67_6)))] [(2, .cells [.tv (.str pa0_0.fName), .tv (.sl (.st .api_Dimension) pa0_0.fDimensions), .tv (.sl (.sl (.st .api_Affix)) pa0_0.fSlots)]), (5, .cells [.mp 16]), (16, .mp (.st .arr2_Int) .bool m16_4)] 0 [] [] true
noncomputable def S5 (m16_4 : (List (arr2_Int × Bool))) (pa0_0 : api_Paradigm) (out13_5 : (List arr2_Int)) (x58_5 : Int) : St E :=
  mkSt 85 89 [(2, .one (.ptr 2 0)), (5, .one (.ptr 5 0)), (13, .one (.tok (100013, 0, 41) (.st .arr2_Int) out13_5)), (57, .one (.tv (.int .i64 (pa0_0.fSlots.length : Int)))), (58, .one (.tv (.int .i64 x58_5)))] [(2, .cells [.tv (.str pa0_0.fName), .tv (.sl (.st .api_Dimension) pa0_0.fDimensions), .tv (.sl (.sl (.st .api_Affix)) pa0_0.fSlots)]), (5, .cells [.mp 16]), (16, .mp (.st .arr2_Int) .bool m16_4)] 0 [] [] true
noncomputable def S4 (pa0_0 : api_Paradigm) (m16_4 : (List (arr2_Int × Bool))) : St E :=
  mkSt 85 89 [(2, .one (.ptr 2 0)), (5, .one (.ptr 5 0))] [(2, .cells [.tv (.str pa0_0.fName), .tv (.sl (.st .api_Dimension) pa0_0.fDimensions), .tv (.sl (.sl (.st .api_Affix)) pa0_0.fSlots)]), (5, .cells [.mp 16]), (16, .mp (.st .arr2_Int) .bool m16_4)] 0 [] [] true
noncomputable def S1 (inherenta1_0 : (List (List api_Feature))) (pa0_0 : api_Paradigm) (it0_1 : (List ((List api_Feature)))) (m16_1 : (List (arr2_Int × Bool))) : St E :=
  mkSt 85 89 [(2, .one (.ptr 2 0)), (3, .one (.ptr 3 0)), (4, .one (.tv (.val nilS))), (5, .one (.ptr 5 0))] [(2, .cells [.tv (.str pa0_0.fName), .tv (.sl (.st .api_Dimension) pa0_0.fDimensions), .tv (.sl (.sl (.st .api_Affix)) pa0_0.fSlots)]), (3, .cells [.tv (.sl (.sl (.st .api_Feature)) inherenta1_0)]), (5, .cells [.mp 16]), (16, .mp (.st .arr2_Int) .bool m16_1)] 0 [] [⟨[(.sl (.st .api_Feature))], it0_1⟩] true
noncomputable def K (M : Nat) : Cont E (List arr2_Int) := kRet (C11 M) Tryd.f11.results.toList rs ex
noncomputable abbrev zA (M : Nat) (ZL : List Dir → Option (Ut)) (q : List Dir) : Ut := zAt (C11 M) (H M) M 0 ZL body plans (K M) q
noncomputable abbrev lA (M : Nat) (ZL : List Dir → Option (Ut)) (q : List Dir) (k : Nat) : Ut := lpAt (C11 M) (H M) M 0 ZL body plans (K M) q k
noncomputable abbrev gA (M : Nat) (Z : Zt) (q : List Dir) : Ut := seg (C11 M) (H M) 0 Z body plans (K M) q
set_option maxRecDepth 100000
theorem g3 (M : Nat) (Z : Zt) (inherenta1_0 : (List (List api_Feature))) (pa0_0 : api_Paradigm) (r31_158 : (List api_Feature) × Bool) (x23_2 : Int) (x900_1 : (List api_Feature)) (xs900_1 : List ((List api_Feature))) (x37_3 : Int) (m16_3 : (List (arr2_Int × Bool))) : gA M Z Qt3 (S3 inherenta1_0 pa0_0 r31_158 x23_2 x900_1 xs900_1 x37_3 m16_3) = s3 M
    (fun inherenta1_0 pa0_0 x900_1 xs900_1 x23_2 m16_2 => Z Qt2 (S2 inherenta1_0 pa0_0 x900_1 xs900_1 x23_2 m16_2))
    (fun inherenta1_0 pa0_0 r31_158 x23_2 x900_1 xs900_1 x37_3 m16_3 => Z Qt3 (S3 inherenta1_0 pa0_0 r31_158 x23_2 x900_1 xs900_1 x37_3 m16_3)) inherenta1_0 pa0_0 r31_158 x23_2 x900_1 xs900_1 x37_3 m16_3 := by kernel_rfl
theorem g2 (M : Nat) (Z : Zt) (inherenta1_0 : (List (List api_Feature))) (pa0_0 : api_Paradigm) (x900_1 : (List api_Feature)) (xs900_1 : List ((List api_Feature))) (x23_2 : Int) (m16_2 : (List (arr2_Int × Bool))) : gA M Z Qt2 (S2 inherenta1_0 pa0_0 x900_1 xs900_1 x23_2 m16_2) = s2 M
    (fun inherenta1_0 pa0_0 it0_1 m16_1 => Z Qt1 (S1 inherenta1_0 pa0_0 it0_1 m16_1))
    (fun inherenta1_0 pa0_0 r31_158 x23_2 x900_1 xs900_1 x37_3 m16_3 => Z Qt3 (S3 inherenta1_0 pa0_0 r31_158 x23_2 x900_1 xs900_1 x37_3 m16_3)) inherenta1_0 pa0_0 x900_1 xs900_1 x23_2 m16_2 := by kernel_rfl
theorem g6 (M : Nat) (Z : Zt) (m16_4 : (List (arr2_Int × Bool))) (pa0_0 : api_Paradigm) (x58_5 : Int) (out13_6 : (List arr2_Int)) (x67_6 : Int) : gA M Z Qt6 (S6 m16_4 pa0_0 x58_5 out13_6 x67_6) = s6 M
    (fun m16_4 pa0_0 out13_5 x58_5 => Z Qt5 (S5 m16_4 pa0_0 out13_5 x58_5))
    (fun m16_4 pa0_0 x58_5 out13_6 x67_6 => Z Qt6 (S6 m16_4 pa0_0 x58_5 out13_6 x67_6)) m16_4 pa0_0 x58_5 out13_6 x67_6 := by kernel_rfl
theorem g5 (M : Nat) (Z : Zt) (m16_4 : (List (arr2_Int × Bool))) (pa0_0 : api_Paradigm) (out13_5 : (List arr2_Int)) (x58_5 : Int) : gA M Z Qt5 (S5 m16_4 pa0_0 out13_5 x58_5) = s5 M
    (fun m16_4 pa0_0 x58_5 out13_6 x67_6 => Z Qt6 (S6 m16_4 pa0_0 x58_5 out13_6 x67_6)) m16_4 pa0_0 out13_5 x58_5 := by kernel_rfl
theorem g4 (M : Nat) (Z : Zt) (pa0_0 : api_Paradigm) (m16_4 : (List (arr2_Int × Bool))) : gA M Z Qt4 (S4 pa0_0 m16_4) = s4 M
    (fun m16_4 pa0_0 out13_5 x58_5 => Z Qt5 (S5 m16_4 pa0_0 out13_5 x58_5)) pa0_0 m16_4 := by kernel_rfl
theorem g1 (M : Nat) (Z : Zt) (inherenta1_0 : (List (List api_Feature))) (pa0_0 : api_Paradigm) (it0_1 : (List ((List api_Feature)))) (m16_1 : (List (arr2_Int × Bool))) : gA M Z Qt1 (S1 inherenta1_0 pa0_0 it0_1 m16_1) = s1 M
    (fun inherenta1_0 pa0_0 x900_1 xs900_1 x23_2 m16_2 => Z Qt2 (S2 inherenta1_0 pa0_0 x900_1 xs900_1 x23_2 m16_2))
    (fun pa0_0 m16_4 => Z Qt4 (S4 pa0_0 m16_4)) inherenta1_0 pa0_0 it0_1 m16_1 := by kernel_rfl
theorem g (M : Nat) (Z : Zt) (pa0_0 : api_Paradigm) (inherenta1_0 : (List (List api_Feature))) : runZ (C11 M) (extZ (C11 M) (H M) 0) Z body plans (start (argHs ps (pa0_0, inherenta1_0)) Tryd.f11.ntmps 89) (K M) = s M
    (fun inherenta1_0 pa0_0 it0_1 m16_1 => Z Qt1 (S1 inherenta1_0 pa0_0 it0_1 m16_1)) pa0_0 inherenta1_0 := by kernel_rfl
theorem el3 (M : Nat) (Z1 : Ut) (Z2 : Ut) (h2 : Ht2) (hZ2 : ∀ (inherenta1_0 : (List (List api_Feature))) (pa0_0 : api_Paradigm) (x900_1 : (List api_Feature)) (xs900_1 : List ((List api_Feature))) (x23_2 : Int) (m16_2 : (List (arr2_Int × Bool))), Z2 (S2 inherenta1_0 pa0_0 x900_1 xs900_1 x23_2 m16_2) = h2 inherenta1_0 pa0_0 x900_1 xs900_1 x23_2 m16_2) (k : Nat) (inherenta1_0 : (List (List api_Feature))) (pa0_0 : api_Paradigm) (r31_158 : (List api_Feature) × Bool) (x23_2 : Int) (x900_1 : (List api_Feature)) (xs900_1 : List ((List api_Feature))) (x37_3 : Int) (m16_3 : (List (arr2_Int × Bool))) : lA M (zlq Qt3 [Z1, Z2]) Qt3 k (S3 inherenta1_0 pa0_0 r31_158 x23_2 x900_1 xs900_1 x37_3 m16_3) = l3 M h2 k inherenta1_0 pa0_0 r31_158 x23_2 x900_1 xs900_1 x37_3 m16_3 := by
  induction k generalizing inherenta1_0 pa0_0 r31_158 x23_2 x900_1 xs900_1 x37_3 m16_3 with
  | zero => kernel_rfl
  | succ k ih =>
    refine Eq.trans (b := lA M (zlq Qt3 [Z1, Z2, lA M (zlq Qt3 [Z1, Z2]) Qt3 k]) Qt3 (k + 1) (S3 inherenta1_0 pa0_0 r31_158 x23_2 x900_1 xs900_1 x37_3 m16_3)) (by kernel_rfl) ?_
    refine (seg_loop (Hok M) 0 Qt3 body plans (K M) _ (S3 inherenta1_0 pa0_0 r31_158 x23_2 x900_1 xs900_1 x37_3 m16_3) (around_zlq _ _ (by kernel_rfl)) (by kernel_rfl) (by kernel_rfl)).trans ?_
    refine (g3 M _ inherenta1_0 pa0_0 r31_158 x23_2 x900_1 xs900_1 x37_3 m16_3).trans ?_
    have x0 := (funext fun inherenta1_0 => funext fun pa0_0 => funext fun x900_1 => funext fun xs900_1 => funext fun x23_2 => funext fun m16_2 => Eq.trans (b := Z2 (S2 inherenta1_0 pa0_0 x900_1 xs900_1 x23_2 m16_2)) (by kernel_rfl) (hZ2 inherenta1_0 pa0_0 x900_1 xs900_1 x23_2 m16_2) : (fun inherenta1_0 pa0_0 x900_1 xs900_1 x23_2 m16_2 => zA M (zlq Qt3 [Z1, Z2, lA M (zlq Qt3 [Z1, Z2]) Qt3 k]) Qt2 (S2 inherenta1_0 pa0_0 x900_1 xs900_1 x23_2 m16_2)) = h2)
    have x1 := (funext fun inherenta1_0 => funext fun pa0_0 => funext fun r31_158 => funext fun x23_2 => funext fun x900_1 => funext fun xs900_1 => funext fun x37_3 => funext fun m16_3 => Eq.trans (b := lA M (zlq Qt3 [Z1, Z2]) Qt3 k (S3 inherenta1_0 pa0_0 r31_158 x23_2 x900_1 xs900_1 x37_3 m16_3)) (by kernel_rfl) (ih inherenta1_0 pa0_0 r31_158 x23_2 x900_1 xs900_1 x37_3 m16_3) : (fun inherenta1_0 pa0_0 r31_158 x23_2 x900_1 xs900_1 x37_3 m16_3 => zA M (zlq Qt3 [Z1, Z2, lA M (zlq Qt3 [Z1, Z2]) Qt3 k]) Qt3 (S3 inherenta1_0 pa0_0 r31_158 x23_2 x900_1 xs900_1 x37_3 m16_3)) = l3 M h2 k)
    rw [x0, x1]; rfl
theorem e3 (M : Nat) (Z1 : Ut) (Z2 : Ut) (h2 : Ht2) (hZ2 : ∀ (inherenta1_0 : (List (List api_Feature))) (pa0_0 : api_Paradigm) (x900_1 : (List api_Feature)) (xs900_1 : List ((List api_Feature))) (x23_2 : Int) (m16_2 : (List (arr2_Int × Bool))), Z2 (S2 inherenta1_0 pa0_0 x900_1 xs900_1 x23_2 m16_2) = h2 inherenta1_0 pa0_0 x900_1 xs900_1 x23_2 m16_2) (inherenta1_0 : (List (List api_Feature))) (pa0_0 : api_Paradigm) (r31_158 : (List api_Feature) × Bool) (x23_2 : Int) (x900_1 : (List api_Feature)) (xs900_1 : List ((List api_Feature))) (x37_3 : Int) (m16_3 : (List (arr2_Int × Bool))) : zA M (zlq Qt3 [Z1, Z2]) Qt3 (S3 inherenta1_0 pa0_0 r31_158 x23_2 x900_1 xs900_1 x37_3 m16_3) = l3 M h2 M inherenta1_0 pa0_0 r31_158 x23_2 x900_1 xs900_1 x37_3 m16_3 :=
  Eq.trans (b := lA M (zlq Qt3 [Z1, Z2]) Qt3 M (S3 inherenta1_0 pa0_0 r31_158 x23_2 x900_1 xs900_1 x37_3 m16_3)) (by kernel_rfl) (el3 M Z1 Z2 h2 hZ2 M inherenta1_0 pa0_0 r31_158 x23_2 x900_1 xs900_1 x37_3 m16_3)
theorem el2 (M : Nat) (Z1 : Ut) (h1 : Ht1) (hZ1 : ∀ (inherenta1_0 : (List (List api_Feature))) (pa0_0 : api_Paradigm) (it0_1 : (List ((List api_Feature)))) (m16_1 : (List (arr2_Int × Bool))), Z1 (S1 inherenta1_0 pa0_0 it0_1 m16_1) = h1 inherenta1_0 pa0_0 it0_1 m16_1) (k : Nat) (inherenta1_0 : (List (List api_Feature))) (pa0_0 : api_Paradigm) (x900_1 : (List api_Feature)) (xs900_1 : List ((List api_Feature))) (x23_2 : Int) (m16_2 : (List (arr2_Int × Bool))) : lA M (zlq Qt2 [Z1]) Qt2 k (S2 inherenta1_0 pa0_0 x900_1 xs900_1 x23_2 m16_2) = l2 M h1 k inherenta1_0 pa0_0 x900_1 xs900_1 x23_2 m16_2 := by
  induction k generalizing inherenta1_0 pa0_0 x900_1 xs900_1 x23_2 m16_2 with
  | zero => kernel_rfl
  | succ k ih =>
    refine Eq.trans (b := lA M (zlq Qt2 [Z1, lA M (zlq Qt2 [Z1]) Qt2 k]) Qt2 (k + 1) (S2 inherenta1_0 pa0_0 x900_1 xs900_1 x23_2 m16_2)) (by kernel_rfl) ?_
    refine (seg_loop (Hok M) 0 Qt2 body plans (K M) _ (S2 inherenta1_0 pa0_0 x900_1 xs900_1 x23_2 m16_2) (around_zlq _ _ (by kernel_rfl)) (by kernel_rfl) (by kernel_rfl)).trans ?_
    refine (g2 M _ inherenta1_0 pa0_0 x900_1 xs900_1 x23_2 m16_2).trans ?_
    have x0 := (funext fun inherenta1_0 => funext fun pa0_0 => funext fun it0_1 => funext fun m16_1 => Eq.trans (b := Z1 (S1 inherenta1_0 pa0_0 it0_1 m16_1)) (by kernel_rfl) (hZ1 inherenta1_0 pa0_0 it0_1 m16_1) : (fun inherenta1_0 pa0_0 it0_1 m16_1 => zA M (zlq Qt2 [Z1, lA M (zlq Qt2 [Z1]) Qt2 k]) Qt1 (S1 inherenta1_0 pa0_0 it0_1 m16_1)) = h1)
    have x1 := (funext fun inherenta1_0 => funext fun pa0_0 => funext fun r31_158 => funext fun x23_2 => funext fun x900_1 => funext fun xs900_1 => funext fun x37_3 => funext fun m16_3 => Eq.trans (b := zA M (zlq Qt3 [Z1, (lA M (zlq Qt2 [Z1]) Qt2 k)]) Qt3 (S3 inherenta1_0 pa0_0 r31_158 x23_2 x900_1 xs900_1 x37_3 m16_3)) (by kernel_rfl) (e3 M Z1 (lA M (zlq Qt2 [Z1]) Qt2 k) (l2 M h1 k) (fun inherenta1_0 pa0_0 x900_1 xs900_1 x23_2 m16_2 => ih inherenta1_0 pa0_0 x900_1 xs900_1 x23_2 m16_2) inherenta1_0 pa0_0 r31_158 x23_2 x900_1 xs900_1 x37_3 m16_3) : (fun inherenta1_0 pa0_0 r31_158 x23_2 x900_1 xs900_1 x37_3 m16_3 => zA M (zlq Qt2 [Z1, lA M (zlq Qt2 [Z1]) Qt2 k]) Qt3 (S3 inherenta1_0 pa0_0 r31_158 x23_2 x900_1 xs900_1 x37_3 m16_3)) = l3 M (l2 M h1 k) M)
    rw [x0, x1]; rfl
theorem e2 (M : Nat) (Z1 : Ut) (h1 : Ht1) (hZ1 : ∀ (inherenta1_0 : (List (List api_Feature))) (pa0_0 : api_Paradigm) (it0_1 : (List ((List api_Feature)))) (m16_1 : (List (arr2_Int × Bool))), Z1 (S1 inherenta1_0 pa0_0 it0_1 m16_1) = h1 inherenta1_0 pa0_0 it0_1 m16_1) (inherenta1_0 : (List (List api_Feature))) (pa0_0 : api_Paradigm) (x900_1 : (List api_Feature)) (xs900_1 : List ((List api_Feature))) (x23_2 : Int) (m16_2 : (List (arr2_Int × Bool))) : zA M (zlq Qt2 [Z1]) Qt2 (S2 inherenta1_0 pa0_0 x900_1 xs900_1 x23_2 m16_2) = l2 M h1 M inherenta1_0 pa0_0 x900_1 xs900_1 x23_2 m16_2 :=
  Eq.trans (b := lA M (zlq Qt2 [Z1]) Qt2 M (S2 inherenta1_0 pa0_0 x900_1 xs900_1 x23_2 m16_2)) (by kernel_rfl) (el2 M Z1 h1 hZ1 M inherenta1_0 pa0_0 x900_1 xs900_1 x23_2 m16_2)
theorem el6 (M : Nat) (Z5 : Ut) (h5 : Ht5) (hZ5 : ∀ (m16_4 : (List (arr2_Int × Bool))) (pa0_0 : api_Paradigm) (out13_5 : (List arr2_Int)) (x58_5 : Int), Z5 (S5 m16_4 pa0_0 out13_5 x58_5) = h5 m16_4 pa0_0 out13_5 x58_5) (k : Nat) (m16_4 : (List (arr2_Int × Bool))) (pa0_0 : api_Paradigm) (x58_5 : Int) (out13_6 : (List arr2_Int)) (x67_6 : Int) : lA M (zlq Qt6 [Z5]) Qt6 k (S6 m16_4 pa0_0 x58_5 out13_6 x67_6) = l6 M h5 k m16_4 pa0_0 x58_5 out13_6 x67_6 := by
  induction k generalizing m16_4 pa0_0 x58_5 out13_6 x67_6 with
  | zero => kernel_rfl
  | succ k ih =>
    refine Eq.trans (b := lA M (zlq Qt6 [Z5, lA M (zlq Qt6 [Z5]) Qt6 k]) Qt6 (k + 1) (S6 m16_4 pa0_0 x58_5 out13_6 x67_6)) (by kernel_rfl) ?_
    refine (seg_loop (Hok M) 0 Qt6 body plans (K M) _ (S6 m16_4 pa0_0 x58_5 out13_6 x67_6) (around_zlq _ _ (by kernel_rfl)) (by kernel_rfl) (by kernel_rfl)).trans ?_
    refine (g6 M _ m16_4 pa0_0 x58_5 out13_6 x67_6).trans ?_
    have x0 := (funext fun m16_4 => funext fun pa0_0 => funext fun out13_5 => funext fun x58_5 => Eq.trans (b := Z5 (S5 m16_4 pa0_0 out13_5 x58_5)) (by kernel_rfl) (hZ5 m16_4 pa0_0 out13_5 x58_5) : (fun m16_4 pa0_0 out13_5 x58_5 => zA M (zlq Qt6 [Z5, lA M (zlq Qt6 [Z5]) Qt6 k]) Qt5 (S5 m16_4 pa0_0 out13_5 x58_5)) = h5)
    have x1 := (funext fun m16_4 => funext fun pa0_0 => funext fun x58_5 => funext fun out13_6 => funext fun x67_6 => Eq.trans (b := lA M (zlq Qt6 [Z5]) Qt6 k (S6 m16_4 pa0_0 x58_5 out13_6 x67_6)) (by kernel_rfl) (ih m16_4 pa0_0 x58_5 out13_6 x67_6) : (fun m16_4 pa0_0 x58_5 out13_6 x67_6 => zA M (zlq Qt6 [Z5, lA M (zlq Qt6 [Z5]) Qt6 k]) Qt6 (S6 m16_4 pa0_0 x58_5 out13_6 x67_6)) = l6 M h5 k)
    rw [x0, x1]; rfl
theorem e6 (M : Nat) (Z5 : Ut) (h5 : Ht5) (hZ5 : ∀ (m16_4 : (List (arr2_Int × Bool))) (pa0_0 : api_Paradigm) (out13_5 : (List arr2_Int)) (x58_5 : Int), Z5 (S5 m16_4 pa0_0 out13_5 x58_5) = h5 m16_4 pa0_0 out13_5 x58_5) (m16_4 : (List (arr2_Int × Bool))) (pa0_0 : api_Paradigm) (x58_5 : Int) (out13_6 : (List arr2_Int)) (x67_6 : Int) : zA M (zlq Qt6 [Z5]) Qt6 (S6 m16_4 pa0_0 x58_5 out13_6 x67_6) = l6 M h5 M m16_4 pa0_0 x58_5 out13_6 x67_6 :=
  Eq.trans (b := lA M (zlq Qt6 [Z5]) Qt6 M (S6 m16_4 pa0_0 x58_5 out13_6 x67_6)) (by kernel_rfl) (el6 M Z5 h5 hZ5 M m16_4 pa0_0 x58_5 out13_6 x67_6)
theorem el5 (M : Nat) (k : Nat) (m16_4 : (List (arr2_Int × Bool))) (pa0_0 : api_Paradigm) (out13_5 : (List arr2_Int)) (x58_5 : Int) : lA M (zlq Qt5 []) Qt5 k (S5 m16_4 pa0_0 out13_5 x58_5) = l5 M k m16_4 pa0_0 out13_5 x58_5 := by
  induction k generalizing m16_4 pa0_0 out13_5 x58_5 with
  | zero => kernel_rfl
  | succ k ih =>
    refine Eq.trans (b := lA M (zlq Qt5 [lA M (zlq Qt5 []) Qt5 k]) Qt5 (k + 1) (S5 m16_4 pa0_0 out13_5 x58_5)) (by kernel_rfl) ?_
    refine (seg_loop (Hok M) 0 Qt5 body plans (K M) _ (S5 m16_4 pa0_0 out13_5 x58_5) (around_zlq _ _ (by kernel_rfl)) (by kernel_rfl) (by kernel_rfl)).trans ?_
    refine (g5 M _ m16_4 pa0_0 out13_5 x58_5).trans ?_
    have x0 := (funext fun m16_4 => funext fun pa0_0 => funext fun x58_5 => funext fun out13_6 => funext fun x67_6 => Eq.trans (b := zA M (zlq Qt6 [(lA M (zlq Qt5 []) Qt5 k)]) Qt6 (S6 m16_4 pa0_0 x58_5 out13_6 x67_6)) (by kernel_rfl) (e6 M (lA M (zlq Qt5 []) Qt5 k) (l5 M k) (fun m16_4 pa0_0 out13_5 x58_5 => ih m16_4 pa0_0 out13_5 x58_5) m16_4 pa0_0 x58_5 out13_6 x67_6) : (fun m16_4 pa0_0 x58_5 out13_6 x67_6 => zA M (zlq Qt5 [lA M (zlq Qt5 []) Qt5 k]) Qt6 (S6 m16_4 pa0_0 x58_5 out13_6 x67_6)) = l6 M (l5 M k) M)
    rw [x0]; rfl
theorem e5 (M : Nat) (m16_4 : (List (arr2_Int × Bool))) (pa0_0 : api_Paradigm) (out13_5 : (List arr2_Int)) (x58_5 : Int) : zA M (zlq Qt5 []) Qt5 (S5 m16_4 pa0_0 out13_5 x58_5) = l5 M M m16_4 pa0_0 out13_5 x58_5 :=
  Eq.trans (b := lA M (zlq Qt5 []) Qt5 M (S5 m16_4 pa0_0 out13_5 x58_5)) (by kernel_rfl) (el5 M M m16_4 pa0_0 out13_5 x58_5)
theorem e4 (M : Nat) (pa0_0 : api_Paradigm) (m16_4 : (List (arr2_Int × Bool))) : zA M (zlq Qt4 []) Qt4 (S4 pa0_0 m16_4) = j4 M pa0_0 m16_4 := by
  refine (seg_join (Hok M) 0 Qt4 body plans (K M) _ (S4 pa0_0 m16_4) (around_zlq _ _ (by kernel_rfl)) (by kernel_rfl)).trans ?_
  refine (g4 M _ pa0_0 m16_4).trans ?_
  have x0 := (funext fun m16_4 => funext fun pa0_0 => funext fun out13_5 => funext fun x58_5 => Eq.trans (b := zA M (zlq Qt5 []) Qt5 (S5 m16_4 pa0_0 out13_5 x58_5)) (by kernel_rfl) (e5 M m16_4 pa0_0 out13_5 x58_5) : (fun m16_4 pa0_0 out13_5 x58_5 => zA M (zlq Qt4 []) Qt5 (S5 m16_4 pa0_0 out13_5 x58_5)) = l5 M M)
  rw [x0]; rfl
theorem el1 (M : Nat) (k : Nat) (inherenta1_0 : (List (List api_Feature))) (pa0_0 : api_Paradigm) (it0_1 : (List ((List api_Feature)))) (m16_1 : (List (arr2_Int × Bool))) : lA M (zlq Qt1 []) Qt1 k (S1 inherenta1_0 pa0_0 it0_1 m16_1) = l1 M k inherenta1_0 pa0_0 it0_1 m16_1 := by
  induction k generalizing inherenta1_0 pa0_0 it0_1 m16_1 with
  | zero => kernel_rfl
  | succ k ih =>
    refine Eq.trans (b := lA M (zlq Qt1 [lA M (zlq Qt1 []) Qt1 k]) Qt1 (k + 1) (S1 inherenta1_0 pa0_0 it0_1 m16_1)) (by kernel_rfl) ?_
    refine (seg_loop (Hok M) 0 Qt1 body plans (K M) _ (S1 inherenta1_0 pa0_0 it0_1 m16_1) (around_zlq _ _ (by kernel_rfl)) (by kernel_rfl) (by kernel_rfl)).trans ?_
    refine (g1 M _ inherenta1_0 pa0_0 it0_1 m16_1).trans ?_
    have x0 := (funext fun inherenta1_0 => funext fun pa0_0 => funext fun x900_1 => funext fun xs900_1 => funext fun x23_2 => funext fun m16_2 => Eq.trans (b := zA M (zlq Qt2 [(lA M (zlq Qt1 []) Qt1 k)]) Qt2 (S2 inherenta1_0 pa0_0 x900_1 xs900_1 x23_2 m16_2)) (by kernel_rfl) (e2 M (lA M (zlq Qt1 []) Qt1 k) (l1 M k) (fun inherenta1_0 pa0_0 it0_1 m16_1 => ih inherenta1_0 pa0_0 it0_1 m16_1) inherenta1_0 pa0_0 x900_1 xs900_1 x23_2 m16_2) : (fun inherenta1_0 pa0_0 x900_1 xs900_1 x23_2 m16_2 => zA M (zlq Qt1 [lA M (zlq Qt1 []) Qt1 k]) Qt2 (S2 inherenta1_0 pa0_0 x900_1 xs900_1 x23_2 m16_2)) = l2 M (l1 M k) M)
    have x1 := (funext fun pa0_0 => funext fun m16_4 => Eq.trans (b := zA M (zlq Qt4 []) Qt4 (S4 pa0_0 m16_4)) (by kernel_rfl) (e4 M pa0_0 m16_4) : (fun pa0_0 m16_4 => zA M (zlq Qt1 [lA M (zlq Qt1 []) Qt1 k]) Qt4 (S4 pa0_0 m16_4)) = j4 M)
    rw [x0, x1]; rfl
theorem e1 (M : Nat) (inherenta1_0 : (List (List api_Feature))) (pa0_0 : api_Paradigm) (it0_1 : (List ((List api_Feature)))) (m16_1 : (List (arr2_Int × Bool))) : zA M (zlq Qt1 []) Qt1 (S1 inherenta1_0 pa0_0 it0_1 m16_1) = l1 M M inherenta1_0 pa0_0 it0_1 m16_1 :=
  Eq.trans (b := lA M (zlq Qt1 []) Qt1 M (S1 inherenta1_0 pa0_0 it0_1 m16_1)) (by kernel_rfl) (el1 M M inherenta1_0 pa0_0 it0_1 m16_1)
theorem run (M : Nat) (pa0_0 : api_Paradigm) (inherenta1_0 : (List (List api_Feature))) : runF (rs := rs) (C11 M) (X M) M body Tryd.f11.ntmps 89 Tryd.f11.results.toList plans ps ex (pa0_0, inherenta1_0) = paradigm_Unused M pa0_0 inherenta1_0 := by
  refine Eq.trans (b := runC (C11 M) (X M) M body plans (start (argHs ps (pa0_0, inherenta1_0)) Tryd.f11.ntmps 89) (K M)) (by kernel_rfl) ?_
  refine (zrun (Hok M) 0 body plans _ (K M) (fun _ => none) fun _ => rfl).symm.trans ?_
  refine (g M _ pa0_0 inherenta1_0).trans ?_
  have x0 := (funext fun inherenta1_0 => funext fun pa0_0 => funext fun it0_1 => funext fun m16_1 => Eq.trans (b := zA M (zlq Qt1 []) Qt1 (S1 inherenta1_0 pa0_0 it0_1 m16_1)) (by kernel_rfl) (e1 M inherenta1_0 pa0_0 it0_1 m16_1) : (fun inherenta1_0 pa0_0 it0_1 m16_1 => zA M (fun _ => none) Qt1 (S1 inherenta1_0 pa0_0 it0_1 m16_1)) = l1 M M)
  rw [x0]; rfl
noncomputable def sig (M : Nat) : Sig E := { ps := ps, rs := rs, ex := ex, fn := fun x => paradigm_Unused M x.1 x.2 }
theorem says (M : Nat) : callable Tryd.prog 11 = true ∧ ∀ x y, (sig M).fn x = some y → Says Tryd.prog 11 (sig M) x y := by
  refine ⟨by kernel_rfl, fun x y h => ?_⟩
  refine says_of_run (S := sig M) (C := C11 M) (X := X M) (M := M) (q := 89) (plans := plans) (COk_Tryd) (SigOk_C11 M) (ItOk_C11 M) (by kernel_rfl) (callOk_ext COk_Tryd (SigOk_C11 M) (ItOk_C11 M) (by kernel_rfl) inl_ok.ok (RSigOk_C11 M) (fun _ => callOk_none) M 2) (Tryd.func11) (body := body) (by kernel_rfl) (by kernel_rfl) ?_
  obtain ⟨pa0_0, inherenta1_0⟩ := x
  exact (run M pa0_0 inherenta1_0).trans h
end paradigm_Unused
end Go.Ai.Pav
end
namespace Go.Ai.Pav
open Go Go.Ai
variable {M : Nat}
deriving instance DecidableEq for arr2_Int

/-! ### Affixes that are not used -/
abbrev Used := List (arr2_Int × Bool)
abbrev kq : arr2_Int → arr2_Int → Bool := keyEq (E := E) (.st .arr2_Int)

theorem kq_iff (a b : arr2_Int) : kq a b = true ↔ a = b := by
  have e : kq a b = (decide (a.f0 = b.f0) && (decide (a.f1 = b.f1) && true)) := rfl
  rw [e]
  cases a; cases b
  simp

def putSlots (ch : Int → Int) (ok : Bool) : Nat → Nat → Used → Used
  | 0, _, m => m
  | n + 1, i, m => putSlots ch ok n (i + 1) (cond ok (cond (decide (0 ≤ ch i)) (mput kq m ⟨i, ch i⟩ true) m) m)

theorem putSlots_get {ch : Int → Int} {ok : Bool} {s k : Int} (hk : 0 ≤ k) : ∀ (n i : Nat) (m : Used), (mget kq (putSlots ch ok n i m) ⟨s, k⟩).getD false = ((mget kq m ⟨s, k⟩).getD false || (ok && (decide ((i : Int) ≤ s) && (decide (s < (i : Int) + n) && decide (ch s = k)))))
  | 0, i, m => by
    have : (decide ((i : Int) ≤ s) && (decide (s < (i : Int) + (0 : Nat)) && decide (ch s = k))) = false := by
      by_cases h : (i : Int) ≤ s
      · have e : decide (s < (i : Int) + (0 : Nat)) = false := decide_eq_false (by omega)
        rw [e, Bool.false_and, Bool.and_false]
      · simp [h]
    rw [this]; simp [putSlots]
  | n + 1, i, m => by
    simp only [putSlots]
    rw [putSlots_get hk n (i + 1)]
    cases ok with
    | false => simp
    | true =>
      simp only [cond_true, Bool.true_and]
      have hput : (mget kq (cond (decide (0 ≤ ch i)) (mput kq m ⟨i, ch i⟩ true) m) ⟨s, k⟩).getD false = ((mget kq m ⟨s, k⟩).getD false || (decide (s = (i : Int)) && decide (ch i = k))) := by
        by_cases h0 : 0 ≤ ch i
        · rw [cpos h0, mget_mput kq_iff]
          cases hq : kq ⟨s, k⟩ ⟨i, ch i⟩ with
          | true =>
            have e := (kq_iff _ _).1 hq
            simp only [arr2_Int.mk.injEq] at e
            simp [e.1, e.2]
          | false =>
            have e : ¬ (s = (i : Int) ∧ k = ch i) := fun h => by
              have := (kq_iff ⟨s, k⟩ ⟨i, ch i⟩).2 (by rw [h.1, h.2])
              rw [this] at hq; cases hq
            simp only [cond_false]
            by_cases hs : s = (i : Int)
            · have : ¬ ch i = k := fun h => e ⟨hs, h.symm⟩
              simp [this]
            · simp [hs]
        · rw [cneg h0]
          have : ¬ ch i = k := by omega
          simp [this]
      rw [hput, Bool.or_assoc]
      congr 1
      by_cases hs : s = (i : Int)
      · subst hs
        have h1 : decide (((i + 1 : Nat) : Int) ≤ (i : Int)) = false := decide_eq_false (by omega)
        have h2 : decide ((i : Int) < (i : Int) + (n + 1 : Nat)) = true := decide_eq_true (by omega)
        have h3 : decide ((i : Int) ≤ (i : Int)) = true := decide_eq_true (by omega)
        have h4 : decide ((i : Int) = (i : Int)) = true := decide_eq_true rfl
        rw [h1, h2, h3, h4]
        simp
      · have e1 : decide (((i + 1 : Nat) : Int) ≤ s) = decide ((i : Int) ≤ s) := by rw [Bool.eq_iff_iff]; simp; omega
        have e2 : decide (s < ((i + 1 : Nat) : Int) + n) = decide (s < (i : Int) + (n + 1 : Nat)) := by rw [Bool.eq_iff_iff]; simp; omega
        rw [e1, e2]; simp [hs]

def putOne (ds : List api_Dimension) (ss : List (List api_Affix)) (c r : List api_Feature) (m : Used) : Used := putSlots (fun i => chosenS subsP ss i (pairOf (mergeS ds c r)).1) (pairOf (mergeS ds c r)).2 ss.length 0 m
def putInh (ds : List api_Dimension) (ss : List (List api_Affix)) (c : List api_Feature) : List (List api_Feature) → Used → Used
  | [], m => m
  | r :: rs, m => putInh ds ss c rs (putOne ds ss c r m)
def putCells (ds : List api_Dimension) (ss : List (List api_Affix)) (inh : List (List api_Feature)) : List (List api_Feature) → Used → Used
  | [], m => m
  | c :: cs, m => putCells ds ss inh cs (putInh ds ss c inh m)

def usesOne (ds : List api_Dimension) (ss : List (List api_Affix)) (s k : Int) (c r : List api_Feature) : Bool := match mergeS ds c r with
  | none => false
  | some m => decide (chosenS subs ss s m = k)
def usedS (ds : List api_Dimension) (ss : List (List api_Affix)) (inh : List (List api_Feature)) (s k : Int) : Bool := (cells ds).any fun c => inh.any fun r => usesOne ds ss s k c r

theorem putOne_get {ds : List api_Dimension} {ss : List (List api_Affix)} (ha : ascSlots ss) {c r : List api_Feature} {m : Used} {s k : Int} (hk : 0 ≤ k) (h0 : 0 ≤ s) (h1 : s < (ss.length : Int)) : (mget kq (putOne ds ss c r m) ⟨s, k⟩).getD false = ((mget kq m ⟨s, k⟩).getD false || usesOne ds ss s k c r) := by
  unfold putOne usesOne
  rw [putSlots_get hk]
  cases hm : mergeS ds c r with
  | none => rfl
  | some x =>
    obtain ⟨g1, _⟩ := merge_asc hm
    simp only [pairOf, Option.getD_some, Option.isSome_some, Bool.true_and, chosen_same ha g1]
    have e1 : decide (((0 : Nat) : Int) ≤ s) = true := by simp; omega
    have e2 : decide (s < ((0 : Nat) : Int) + (ss.length : Nat)) = true := by simp; omega
    rw [e1, e2]; rfl

theorem putCells_get {ds : List api_Dimension} {ss : List (List api_Affix)} (ha : ascSlots ss) {inh : List (List api_Feature)} {s k : Int} (hk : 0 ≤ k) (h0 : 0 ≤ s) (h1 : s < (ss.length : Int)) : ∀ (cs : List (List api_Feature)) (m : Used), (mget kq (putCells ds ss inh cs m) ⟨s, k⟩).getD false = ((mget kq m ⟨s, k⟩).getD false || cs.any fun c => inh.any fun r => usesOne ds ss s k c r) := by
  have hinh : ∀ (c : List api_Feature) (rs : List (List api_Feature)) (m : Used), (mget kq (putInh ds ss c rs m) ⟨s, k⟩).getD false = ((mget kq m ⟨s, k⟩).getD false || rs.any fun r => usesOne ds ss s k c r) := by
    intro c rs
    induction rs with
    | nil => intro m; simp [putInh]
    | cons r rs ih => intro m; simp only [putInh, ih, putOne_get ha hk h0 h1, List.any_cons, Bool.or_assoc]
  intro cs
  induction cs with
  | nil => intro m; simp [putCells]
  | cons c cs ih => intro m; simp only [putCells, ih, hinh, List.any_cons, Bool.or_assoc]

/-- The pairs that are left. -/
def rowU (u : Int → Int → Bool) (i : Nat) : Nat → Nat → List arr2_Int
  | 0, _ => []
  | n + 1, j => cond (u i j) (rowU u i n (j + 1)) (⟨i, j⟩ :: rowU u i n (j + 1))
def rowsU (u : Int → Int → Bool) : Nat → List (List api_Affix) → List arr2_Int
  | _, [] => []
  | i, s :: ss => rowU u i s.length 0 ++ rowsU u (i + 1) ss

theorem rowU_length (u : Int → Int → Bool) (i : Nat) : ∀ (n j : Nat), (rowU u i n j).length ≤ n
  | 0, _ => Nat.le_refl _
  | n + 1, j => by
    have := rowU_length u i n (j + 1)
    simp only [rowU]
    cases u i j <;> simp <;> omega

theorem rowU_congr {u u' : Int → Int → Bool} {i : Nat} (h : ∀ j : Nat, u i j = u' i j) : ∀ (n j : Nat), rowU u i n j = rowU u' i n j
  | 0, _ => rfl
  | n + 1, j => by simp only [rowU, h, rowU_congr h n (j + 1)]

theorem rowsU_congr {u u' : Int → Int → Bool} : ∀ (ss : List (List api_Affix)) (i : Nat), (∀ q j : Nat, q < i + ss.length → u q j = u' q j) → rowsU u i ss = rowsU u' i ss
  | [], _, _ => rfl
  | s :: ss, i, h => by
    simp only [rowsU]
    rw [rowU_congr (fun j => h i j (by simp)), rowsU_congr ss (i + 1) fun q j hq => h q j (by simp only [List.length_cons]; omega)]

def okInh (inh : List (List api_Feature)) : Prop := inh.length ≤ 1048576 ∧ ∀ r ∈ inh, okR r

theorem paradigm_Unused_eq (hM : 1048576 < M) {p : api_Paradigm} (hd : okDims p.fDimensions) (hs : okSlots p.fSlots) (ha : ascSlots p.fSlots) (h8 : p.fSlots.length ≤ 8) (h64 : ∀ s ∈ p.fSlots, s.length ≤ 64) {inh : List (List api_Feature)} (hi : okInh inh) :
    paradigm_Unused M p inh = some (rowsU (usedS p.fDimensions p.fSlots inh) 0 p.fSlots) := by
  have hsl := hs.1
  have hil := hi.1
  have slots : ∀ (h2 : List (List api_Feature) → api_Paradigm → List api_Feature → List (List api_Feature) → Int → Used → Option (List arr2_Int)) (c r : List api_Feature) (x : Nat) (xs : List (List api_Feature)) (m : Used), x < inh.length →
      paradigm_Unused.l3 M h2 M inh p (pairOf (mergeS p.fDimensions c r)) x c xs 0 m = h2 inh p c xs ((x + 1 : Nat) : Int) (putOne p.fDimensions p.fSlots c r m) := by
    intro h2 c r x xs m hx
    have hml : (pairOf (mergeS p.fDimensions c r)).1.length ≤ 1048576 := by
      cases hm : mergeS p.fDimensions c r with
      | none => simp [pairOf]
      | some y => have := (merge_asc hm).2; simp only [pairOf, Option.getD_some]; omega
    refine upto (n := p.fSlots.length) (f := fun k i (m : Used) => paradigm_Unused.l3 M h2 k inh p (pairOf (mergeS p.fDimensions c r)) x c xs i m) (g := fun i m => h2 inh p c xs ((x + 1 : Nat) : Int) (putSlots (fun i => chosenS subsP p.fSlots i (pairOf (mergeS p.fDimensions c r)).1) (pairOf (mergeS p.fDimensions c r)).2 (p.fSlots.length - i) i m)) (fun k m => by
      simp (disch := omega) only [paradigm_Unused.l3, paradigm_Unused.s3, ↓cneg (Int.lt_irrefl _), Nat.sub_self, putSlots, wsucc]) (fun k i m hi' ih => by
      have e : p.fSlots.length - i = (p.fSlots.length - (i + 1)) + 1 := by omega
      simp (disch := omega) only [paradigm_Unused.l3, paradigm_Unused.s3, ↓cpos, paradigm_Chosen_eq hM hs hml, Option.bind_some, wsucc, ih]
      rw [e]
      simp only [putSlots]
      cases (pairOf (mergeS p.fDimensions c r)).2 with
      | false => rfl
      | true =>
        simp only [cond_true]
        cases decide (0 ≤ chosenS subsP p.fSlots (i : Int) (pairOf (mergeS p.fDimensions c r)).1) <;> rfl) p.fSlots.length M 0 m (by omega) (by omega)
  have inhs : ∀ (h1 : List (List api_Feature) → api_Paradigm → List (List api_Feature) → Used → Option (List arr2_Int)) (c : List api_Feature) (xs : List (List api_Feature)) (m : Used), c.length ≤ 1048576 →
      paradigm_Unused.l2 M h1 M inh p c xs 0 m = h1 inh p xs (putInh p.fDimensions p.fSlots c inh m) := by
    intro h1 c xs m hcl
    exact over (xs := inh) (f := fun k i (m : Used) => paradigm_Unused.l2 M h1 k inh p c xs i m) (g := fun rs m => h1 inh p xs (putInh p.fDimensions p.fSlots c rs m)) (fun k m => by
      simp only [paradigm_Unused.l2, paradigm_Unused.s2, ↓cneg (Int.lt_irrefl _), putInh]) (fun k i r rs m hi' hx ih => by
      have hr := hi.2 r (by rw [← hx]; exact getD_mem hi')
      simp (disch := omega) only [paradigm_Unused.l2, paradigm_Unused.s2, Int.toNat_natCast, ↓cpos, ↓cpos2, hx, paradigm_Merge_eq hM hd hcl hr, Option.bind_some, slots _ c r i xs m hi', ih, putInh]) (by omega) m
  have outs : ∀ m : Used, (∀ q j : Nat, q < p.fSlots.length → (mget kq m ⟨q, j⟩).getD false = usedS p.fDimensions p.fSlots inh q j) → paradigm_Unused.j4 M p m = some (rowsU (usedS p.fDimensions p.fSlots inh) 0 p.fSlots) := by
    intro m hm
    have row : ∀ (h5 : Used → api_Paradigm → List arr2_Int → Int → Option (List arr2_Int)) (i : Nat) (s : List api_Affix) (out : List arr2_Int), i < p.fSlots.length → p.fSlots.getD i default = s → s.length ≤ 64 → out.length ≤ 512 →
        paradigm_Unused.l6 M h5 M m p i out 0 = h5 m p (out ++ rowU (usedS p.fDimensions p.fSlots inh) i s.length 0) ((i + 1 : Nat) : Int) := by
      intro h5 i s out hi' hsi hsl' ho
      have key := uptoFrom (lo := 0) (n := s.length) (f := fun k j (o : {o : List arr2_Int // o.length ≤ 512 + 64}) => cond (decide (o.1.length ≤ 512 + j.toNat)) (paradigm_Unused.l6 M h5 k m p i o.1 j) none) (g := fun j o => cond (decide (o.1.length ≤ 512 + j)) (h5 m p (o.1 ++ rowU (usedS p.fDimensions p.fSlots inh) i (s.length - j) j) ((i + 1 : Nat) : Int)) none) (fun k o => by
        simp (disch := omega) only [paradigm_Unused.l6, paradigm_Unused.s6, Int.toNat_natCast, hsi, ↓cneg (Int.lt_irrefl _), Nat.sub_self, rowU, List.append_nil, wsucc]) (fun k j o _ hj ih => by
        have e : s.length - j = (s.length - (j + 1)) + 1 := by omega
        by_cases hol : o.1.length ≤ 512 + j
        · simp only [Int.toNat_natCast]
          rw [cpos hol, cpos hol, e]
          have hq : (mget (keyEq (E := E) (Ty.st Nm.arr2_Int)) m (arr2_Int.mk (i : Int) (j : Int))).getD false = usedS p.fDimensions p.fSlots inh i j := hm i j hi'
          simp (disch := first | omega | (simp only [len, len0]; omega)) only [paradigm_Unused.l6, paradigm_Unused.s6, Int.toNat_natCast, hsi, ↓cpos, wsucc]
          simp only [hq, cnot, rowU]
          cases usedS p.fDimensions p.fSlots inh i j with
          | true =>
            have := ih o
            simp only [Int.toNat_natCast] at this
            rw [cpos (by omega), cpos (by omega)] at this
            simp only [cond_true]
            exact this
          | false =>
            have := ih ⟨o.1 ++ [⟨i, j⟩], by simp; omega⟩
            simp only [Int.toNat_natCast] at this
            rw [cpos (by simp; omega), cpos (by simp; omega)] at this
            simp only [cond_false, this, List.append_assoc, List.singleton_append]
        · simp only [Int.toNat_natCast]
          rw [cneg hol, cneg hol]) s.length M 0 ⟨out, by omega⟩ (by omega) (by omega) (by omega)
      simp only [Int.toNat_natCast] at key
      rw [cpos (by omega), cpos (by omega)] at key
      exact key
    unfold paradigm_Unused.j4 paradigm_Unused.s4
    exact overJ (xs := p.fSlots) (f := fun k i (o : List arr2_Int) => paradigm_Unused.l5 M k m p o i) (g := fun i t o => some (o ++ rowsU (usedS p.fDimensions p.fSlots inh) i t)) (I := fun i o => o.length ≤ 64 * i) (fun k o _ => by
      simp only [paradigm_Unused.l5, paradigm_Unused.s5, ↓cneg (Int.lt_irrefl _), rowsU, List.append_nil]) (fun k i s t o hi' ho hx _ _ ih => by
      have h6 := h64 s (by rw [← hx]; exact getD_mem hi')
      simp (disch := omega) only [paradigm_Unused.l5, paradigm_Unused.s5, ↓cpos, ↓cpos2, row _ i s o hi' hx h6 (by omega)]
      rw [ih _ (by have := rowU_length (usedS p.fDimensions p.fSlots inh) i s.length 0; simp; omega)]
      simp [rowsU]) (k := M) (by omega) (s := []) (by simp)
  unfold paradigm_Unused paradigm_Unused.s
  rw [feature_All_eq hM hd, Option.bind_some]
  show paradigm_Unused.l1 M M inh p (cells p.fDimensions) [] = _
  have key : ∀ (cs : List (List api_Feature)) (k : Nat) (m : Used), cs.length < k → (∀ c ∈ cs, c.length ≤ 1048576) → paradigm_Unused.l1 M k inh p cs m = paradigm_Unused.j4 M p (putCells p.fDimensions p.fSlots inh cs m) := by
    intro cs
    induction cs with
    | nil =>
      intro k m hk _
      obtain ⟨k, rfl⟩ := Nat.exists_eq_succ_of_ne_zero (by omega : k ≠ 0)
      rfl
    | cons c cs ih =>
      intro k m hk hc
      simp only [List.length_cons] at hk
      obtain ⟨k, rfl⟩ := Nat.exists_eq_succ_of_ne_zero (by omega : k ≠ 0)
      simp only [Nat.succ_eq_add_one, paradigm_Unused.l1, paradigm_Unused.s1, lcase]
      rw [inhs _ c cs m (hc c (by simp)), ih k _ (by omega) fun c hc' => hc c (List.mem_cons_of_mem _ hc')]
      rfl
  have hcl := cells_length p.fDimensions
  have hcc := count_le p.fDimensions
  rw [key _ M [] (by omega) fun c hc => by have := (cells_mem hc).2.2; omega]
  exact outs _ fun q j hq => by
    rw [putCells_get ha (by omega) (by omega) (by omega)]
    rfl

end Go.Ai.Pav
namespace Go.Ai.Pav
open Go Go.Ai
variable {M : Nat}

theorem rowsU_length (u : Int → Int → Bool) : ∀ (ss : List (List api_Affix)) (i : Nat), (∀ s ∈ ss, s.length ≤ 64) → (rowsU u i ss).length ≤ 64 * ss.length
  | [], _, _ => by simp [rowsU]
  | s :: ss, i, h => by
    have h1 := rowU_length u i s.length 0
    have h2 := rowsU_length u ss (i + 1) fun s hs => h s (List.mem_cons_of_mem _ hs)
    have h3 := h s (by simp)
    simp only [rowsU, List.length_append, List.length_cons]
    omega

end Go.Ai.Pav
set_option linter.unusedVariables false
set_option linter.unusedSectionVars false
noncomputable section
namespace Go.Ai.Pav
open Go Go.Ai Go.Proofs
noncomputable def sigs10 (M : Nat) : List (Nat × Sig E) := []
noncomputable def rs10 (M : Nat) : List (Nat × Sig E) := []
noncomputable def its10 (M : Nat) : List (Nat × It E) := []
theorem sigs_ok10 (M : Nat) : SigsOk Tryd.prog (sigs10 M) := SigsOk.nil
theorem rs_ok10 (M : Nat) : SigsOk Tryd.prog (rs10 M) := SigsOk.nil
theorem its_ok10 (M : Nat) : ItsOk Tryd.prog (its10 M) := ItsOk.nil
noncomputable def C10 (M : Nat) : Ctx E := { ti := fun t => tisE.lookup t, sig := fun f => (sigs10 M).lookup f, it := fun f => (its10 M).lookup f, nt := 9 }
theorem SigOk_C10 (M : Nat) : SigOk Tryd.prog (C10 M) := sigs_ok10 M
theorem RSigOk_C10 (M : Nat) : SigOk Tryd.prog ({ ti := fun _ => none, sig := fun f => (rs10 M).lookup f } : Ctx E) := rs_ok10 M
theorem ItOk_C10 (M : Nat) : ItOk Tryd.prog (C10 M) := (its_ok10 M).ok
namespace pentaglotlaw10_single
noncomputable def plans : List (Option (Plan Nm)) := [none, none]
noncomputable abbrev body : Code := bodyOf Tryd.f10
def ps : List (Ty Nm) := [.str, .str]
def rs : List (Ty Nm) := [(.sl (.st .api_Feature))]
def ex : List (Option Nat) := [some 45]
noncomputable def inl : List (Nat × Nat × Nat × Inl Nm) := []
theorem inl_ok : InlsOk Tryd.prog inl := InlsOk.nil
noncomputable def X (M : Nat) : Ext E (List api_Feature) := extOf (C10 M) (inlOf inl) (fun f => (rs10 M).lookup f) (fun _ _ _ => none) noX M 1
abbrev Rt := (List api_Feature)
noncomputable def H (M : Nat) : Hd E Rt := hd0 (X M)
theorem Hok (M : Nat) : (H M).ok (C10 M) M := hd0_ok _
abbrev Zt := List Dir → St E → Option Rt
abbrev Ut := St E → Option Rt
noncomputable def s (M : Nat) (namea0_0 : (List UInt8)) (valuea1_0 : (List UInt8)) : Option Rt :=
  some [api_Feature.mk namea0_0 valuea1_0]
end pentaglotlaw10_single
noncomputable def pentaglotlaw10_single (M : Nat) (namea0_0 : (List UInt8)) (valuea1_0 : (List UInt8)) : Option (List api_Feature) :=
  pentaglotlaw10_single.s M namea0_0 valuea1_0
namespace pentaglotlaw10_single
noncomputable def K (M : Nat) : Cont E (List api_Feature) := kRet (C10 M) Tryd.f10.results.toList rs ex
set_option maxRecDepth 100000
theorem g (M : Nat) (Z : Zt) (namea0_0 : (List UInt8)) (valuea1_0 : (List UInt8)) : runZ (C10 M) (extZ (C10 M) (H M) 0) Z body plans (start (argHs ps (namea0_0, valuea1_0)) Tryd.f10.ntmps 9) (K M) = s M namea0_0 valuea1_0 := by kernel_rfl
theorem run (M : Nat) (namea0_0 : (List UInt8)) (valuea1_0 : (List UInt8)) : runF (rs := rs) (C10 M) (X M) M body Tryd.f10.ntmps 9 Tryd.f10.results.toList plans ps ex (namea0_0, valuea1_0) = pentaglotlaw10_single M namea0_0 valuea1_0 := by
  refine Eq.trans (b := runC (C10 M) (X M) M body plans (start (argHs ps (namea0_0, valuea1_0)) Tryd.f10.ntmps 9) (K M)) (by kernel_rfl) ?_
  refine (zrun (Hok M) 0 body plans _ (K M) (fun _ => none) fun _ => rfl).symm.trans ?_
  refine (g M _ namea0_0 valuea1_0).trans ?_
  rfl
noncomputable def sig (M : Nat) : Sig E := { ps := ps, rs := rs, ex := ex, fn := fun x => pentaglotlaw10_single M x.1 x.2 }
theorem says (M : Nat) : callable Tryd.prog 10 = true ∧ ∀ x y, (sig M).fn x = some y → Says Tryd.prog 10 (sig M) x y := by
  refine ⟨by kernel_rfl, fun x y h => ?_⟩
  refine says_of_run (S := sig M) (C := C10 M) (X := X M) (M := M) (q := 9) (plans := plans) (COk_Tryd) (SigOk_C10 M) (ItOk_C10 M) (by kernel_rfl) (callOk_ext COk_Tryd (SigOk_C10 M) (ItOk_C10 M) (by kernel_rfl) inl_ok.ok (RSigOk_C10 M) (fun _ => callOk_none) M 1) (Tryd.func10) (body := body) (by kernel_rfl) (by kernel_rfl) ?_
  obtain ⟨namea0_0, valuea1_0⟩ := x
  exact (run M namea0_0 valuea1_0).trans h
end pentaglotlaw10_single
end Go.Ai.Pav
end
set_option linter.unusedVariables false
set_option linter.unusedSectionVars false
noncomputable section
namespace Go.Ai.Pav
open Go Go.Ai Go.Proofs
noncomputable def sigs7 (M : Nat) : List (Nat × Sig E) := [(10, pentaglotlaw10_single.sig M)]
noncomputable def rs7 (M : Nat) : List (Nat × Sig E) := []
noncomputable def its7 (M : Nat) : List (Nat × It E) := []
theorem sigs_ok7 (M : Nat) : SigsOk Tryd.prog (sigs7 M) := SigsOk.cons (pentaglotlaw10_single.says M) (SigsOk.nil)
theorem rs_ok7 (M : Nat) : SigsOk Tryd.prog (rs7 M) := SigsOk.nil
theorem its_ok7 (M : Nat) : ItsOk Tryd.prog (its7 M) := ItsOk.nil
noncomputable def C7 (M : Nat) : Ctx E := { ti := fun t => tisE.lookup t, sig := fun f => (sigs7 M).lookup f, it := fun f => (its7 M).lookup f, nt := 21 }
theorem SigOk_C7 (M : Nat) : SigOk Tryd.prog (C7 M) := sigs_ok7 M
theorem RSigOk_C7 (M : Nat) : SigOk Tryd.prog ({ ti := fun _ => none, sig := fun f => (rs7 M).lookup f } : Ctx E) := rs_ok7 M
theorem ItOk_C7 (M : Nat) : ItOk Tryd.prog (C7 M) := (its_ok7 M).ok
namespace pentaglotlaw10_example
noncomputable def plans : List (Option (Plan Nm)) := [none, none, none]
noncomputable abbrev body : Code := bodyOf Tryd.f7
def ps : List (Ty Nm) := []
def rs : List (Ty Nm) := [(.st .api_Paradigm)]
def ex : List (Option Nat) := [none]
noncomputable def inl : List (Nat × Nat × Nat × Inl Nm) := []
theorem inl_ok : InlsOk Tryd.prog inl := InlsOk.nil
noncomputable def X (M : Nat) : Ext E api_Paradigm := extOf (C7 M) (inlOf inl) (fun f => (rs7 M).lookup f) (fun _ _ _ => none) noX M 1
abbrev Rt := api_Paradigm
noncomputable def H (M : Nat) : Hd E Rt := hd0 (X M)
theorem Hok (M : Nat) : (H M).ok (C7 M) M := hd0_ok _
abbrev Zt := List Dir → St E → Option Rt
abbrev Ut := St E → Option Rt
noncomputable def s (M : Nat) : Option Rt :=
  Option.bind (pentaglotlaw10_single M [103, 101, 110, 100, 101, 114] [102]) fun r2_1 =>
  Option.bind (pentaglotlaw10_single M [110, 117, 109, 98, 101, 114] [112, 108]) fun r8_2 =>
  Option.bind (pentaglotlaw10_single M [99, 97, 115, 101] [97, 99, 99]) fun r12_3 =>
  cond (decide (r12_3.length + r2_1.length ≤ lim))
   (Option.bind (pentaglotlaw10_single M [99, 97, 115, 101] [97, 99, 99]) fun r16_4 =>
    some (api_Paradigm.mk [110, 111, 117, 110] ([api_Dimension.mk [110, 117, 109, 98, 101, 114] ([[115, 103], [112, 108]]), api_Dimension.mk [99, 97, 115, 101] ([[110, 111, 109], [97, 99, 99]])]) ([[api_Affix.mk r8_2 [] [107, 101], api_Affix.mk [] [] [101]], [api_Affix.mk (r12_3 ++ r2_1) [97] [], api_Affix.mk r16_4 [] [116]]])))
   none
end pentaglotlaw10_example
noncomputable def pentaglotlaw10_example (M : Nat) : Option api_Paradigm :=
  pentaglotlaw10_example.s M
namespace pentaglotlaw10_example
noncomputable def K (M : Nat) : Cont E api_Paradigm := kRet (C7 M) Tryd.f7.results.toList rs ex
set_option maxRecDepth 100000
theorem g (M : Nat) (Z : Zt) : runZ (C7 M) (extZ (C7 M) (H M) 0) Z body plans (start (argHs ps ()) Tryd.f7.ntmps 21) (K M) = s M := by kernel_rfl
theorem run (M : Nat) : runF (rs := rs) (C7 M) (X M) M body Tryd.f7.ntmps 21 Tryd.f7.results.toList plans ps ex () = pentaglotlaw10_example M := by
  refine Eq.trans (b := runC (C7 M) (X M) M body plans (start (argHs ps ()) Tryd.f7.ntmps 21) (K M)) (by kernel_rfl) ?_
  refine (zrun (Hok M) 0 body plans _ (K M) (fun _ => none) fun _ => rfl).symm.trans ?_
  refine (g M _).trans ?_
  rfl
noncomputable def sig (M : Nat) : Sig E := { ps := ps, rs := rs, ex := ex, fn := fun _ => pentaglotlaw10_example M }
theorem says (M : Nat) : callable Tryd.prog 7 = true ∧ ∀ x y, (sig M).fn x = some y → Says Tryd.prog 7 (sig M) x y := by
  refine ⟨by kernel_rfl, fun x y h => ?_⟩
  refine says_of_run (S := sig M) (C := C7 M) (X := X M) (M := M) (q := 21) (plans := plans) (COk_Tryd) (SigOk_C7 M) (ItOk_C7 M) (by kernel_rfl) (callOk_ext COk_Tryd (SigOk_C7 M) (ItOk_C7 M) (by kernel_rfl) inl_ok.ok (RSigOk_C7 M) (fun _ => callOk_none) M 1) (Tryd.func7) (body := body) (by kernel_rfl) (by kernel_rfl) ?_
  exact (run M).trans h
end pentaglotlaw10_example
end Go.Ai.Pav
end
set_option linter.unusedVariables false
set_option linter.unusedSectionVars false
noncomputable section
namespace Go.Ai.Pav
open Go Go.Ai Go.Proofs
noncomputable def sigs4 (M : Nat) : List (Nat × Sig E) := [(7, pentaglotlaw10_example.sig M), (8, paradigm_Cell.sig M), (9, paradigm_Underlying.sig M), (10, pentaglotlaw10_single.sig M), (11, paradigm_Unused.sig M), (12, paradigm_Count.sig M), (13, paradigm_Number.sig M)]
noncomputable def rs4 (M : Nat) : List (Nat × Sig E) := []
noncomputable def its4 (M : Nat) : List (Nat × It E) := []
theorem sigs_ok4 (M : Nat) : SigsOk Tryd.prog (sigs4 M) := SigsOk.cons (pentaglotlaw10_example.says M) (SigsOk.cons (paradigm_Cell.says M) (SigsOk.cons (paradigm_Underlying.says M) (SigsOk.cons (pentaglotlaw10_single.says M) (SigsOk.cons (paradigm_Unused.says M) (SigsOk.cons (paradigm_Count.says M) (SigsOk.cons (paradigm_Number.says M) (SigsOk.nil)))))))
theorem rs_ok4 (M : Nat) : SigsOk Tryd.prog (rs4 M) := SigsOk.nil
theorem its_ok4 (M : Nat) : ItsOk Tryd.prog (its4 M) := ItsOk.nil
noncomputable def C4 (M : Nat) : Ctx E := { ti := fun t => tisE.lookup t, sig := fun f => (sigs4 M).lookup f, it := fun f => (its4 M).lookup f, nt := 56 }
theorem SigOk_C4 (M : Nat) : SigOk Tryd.prog (C4 M) := sigs_ok4 M
theorem RSigOk_C4 (M : Nat) : SigOk Tryd.prog ({ ti := fun _ => none, sig := fun f => (rs4 M).lookup f } : Ctx E) := rs_ok4 M
theorem ItOk_C4 (M : Nat) : ItOk Tryd.prog (C4 M) := (its_ok4 M).ok
namespace pentaglotlaw10_awake
noncomputable def plans : List (Option (Plan Nm)) := [none, none, none, none, none, none]
noncomputable abbrev body : Code := bodyOf Tryd.f4
def ps : List (Ty Nm) := []
def rs : List (Ty Nm) := [.bool]
def ex : List (Option Nat) := [none]
noncomputable def inl : List (Nat × Nat × Nat × Inl Nm) := []
theorem inl_ok : InlsOk Tryd.prog inl := InlsOk.nil
noncomputable def X (M : Nat) : Ext E Bool := extOf (C4 M) (inlOf inl) (fun f => (rs4 M).lookup f) (fun _ _ _ => none) noX M 1
abbrev Rt := Bool
noncomputable def H (M : Nat) : Hd E Rt := hd0 (X M)
theorem Hok (M : Nat) : (H M).ok (C4 M) M := hd0_ok _
abbrev Zt := List Dir → St E → Option Rt
abbrev Ut := St E → Option Rt
noncomputable def s (M : Nat) : Option Rt :=
  Option.bind (pentaglotlaw10_example M) fun r7_1 =>
  Option.bind (paradigm_Cell M r7_1 3) fun r10_2 =>
  Option.bind (pentaglotlaw10_single M [103, 101, 110, 100, 101, 114] [102]) fun r15_3 =>
  Option.bind (paradigm_Underlying M r7_1 [116, 101, 107] r15_3 r10_2.1) fun r17_4 =>
  Option.bind (pentaglotlaw10_single M [103, 101, 110, 100, 101, 114] [109]) fun r21_5 =>
  Option.bind (paradigm_Unused M r7_1 [r21_5]) fun r23_6 =>
  cond (r10_2.2)
   (Option.bind (paradigm_Count M r7_1) fun r27_7 =>
    cond (decide (r27_7 = 4))
     (Option.bind (paradigm_Number M r7_1 r10_2.1) fun r33_8 =>
      cond (decide (r33_8 = 3))
       (cond (decide (r17_4.1 = [97, 116, 101, 107, 107, 101]))
         (cond (decide (r17_4.2 = 0))
           (cond (decide ((r23_6.length : Int) = 1))
             (cond (decide (0 ≤ 0) && decide (0 < (r23_6.length : Int)))
               (some (decide (((r23_6.getD 0 default).f0) = 1) && (decide (((r23_6.getD 0 default).f1) = 0) && true)))
               none)
             (some false))
           (some false))
         (some false))
       (some false))
     (some false))
   (some false)
end pentaglotlaw10_awake
noncomputable def pentaglotlaw10_awake (M : Nat) : Option Bool :=
  pentaglotlaw10_awake.s M
namespace pentaglotlaw10_awake
noncomputable def K (M : Nat) : Cont E Bool := kRet (C4 M) Tryd.f4.results.toList rs ex
set_option maxRecDepth 100000
theorem g (M : Nat) (Z : Zt) : runZ (C4 M) (extZ (C4 M) (H M) 0) Z body plans (start (argHs ps ()) Tryd.f4.ntmps 56) (K M) = s M := by kernel_rfl
theorem run (M : Nat) : runF (rs := rs) (C4 M) (X M) M body Tryd.f4.ntmps 56 Tryd.f4.results.toList plans ps ex () = pentaglotlaw10_awake M := by
  refine Eq.trans (b := runC (C4 M) (X M) M body plans (start (argHs ps ()) Tryd.f4.ntmps 56) (K M)) (by kernel_rfl) ?_
  refine (zrun (Hok M) 0 body plans _ (K M) (fun _ => none) fun _ => rfl).symm.trans ?_
  refine (g M _).trans ?_
  rfl
noncomputable def sig (M : Nat) : Sig E := { ps := ps, rs := rs, ex := ex, fn := fun _ => pentaglotlaw10_awake M }
theorem says (M : Nat) : callable Tryd.prog 4 = true ∧ ∀ x y, (sig M).fn x = some y → Says Tryd.prog 4 (sig M) x y := by
  refine ⟨by kernel_rfl, fun x y h => ?_⟩
  refine says_of_run (S := sig M) (C := C4 M) (X := X M) (M := M) (q := 56) (plans := plans) (COk_Tryd) (SigOk_C4 M) (ItOk_C4 M) (by kernel_rfl) (callOk_ext COk_Tryd (SigOk_C4 M) (ItOk_C4 M) (by kernel_rfl) inl_ok.ok (RSigOk_C4 M) (fun _ => callOk_none) M 1) (Tryd.func4) (body := body) (by kernel_rfl) (by kernel_rfl) ?_
  exact (run M).trans h
end pentaglotlaw10_awake
end Go.Ai.Pav
end
namespace Go.Ai.Pav
open Go Go.Ai
variable {M : Nat}

/-! ### The chapter's example -/
def exF : List api_Feature := [⟨[103, 101, 110, 100, 101, 114], [102]⟩]
def exP : api_Paradigm := ⟨[110, 111, 117, 110], [⟨[110, 117, 109, 98, 101, 114], [[115, 103], [112, 108]]⟩, ⟨[99, 97, 115, 101], [[110, 111, 109], [97, 99, 99]]⟩],
  [[⟨[⟨[110, 117, 109, 98, 101, 114], [112, 108]⟩], [], [107, 101]⟩, ⟨[], [], [101]⟩], [⟨[⟨[99, 97, 115, 101], [97, 99, 99]⟩, ⟨[103, 101, 110, 100, 101, 114], [102]⟩], [97], []⟩, ⟨[⟨[99, 97, 115, 101], [97, 99, 99]⟩], [], [116]⟩]]⟩

theorem example_eq : pentaglotlaw10_example M = some exP := rfl

theorem okR_of {r : List api_Feature} (h : (decide (r.length ≤ 1048576) && r.all fun f => decide (f.fName.length ≤ 1048576) && decide (f.fValue.length ≤ 1048576)) = true) : okR r := by
  simp only [Bool.and_eq_true, decide_eq_true_eq, List.all_eq_true] at h
  exact ⟨h.1, fun f hf => h.2 f hf⟩

theorem exDims : okDims exP.fDimensions := by
  refine ⟨by decide, fun d hd => ?_⟩
  simp only [exP, List.mem_cons, List.not_mem_nil, or_false] at hd
  rcases hd with rfl | rfl
  · refine ⟨by decide, by decide, fun v hv => ?_⟩
    simp only [List.mem_cons, List.not_mem_nil, or_false] at hv
    rcases hv with rfl | rfl <;> decide
  · refine ⟨by decide, by decide, fun v hv => ?_⟩
    simp only [List.mem_cons, List.not_mem_nil, or_false] at hv
    rcases hv with rfl | rfl <;> decide

theorem exSlots : okSlots exP.fSlots ∧ ascSlots exP.fSlots ∧ ∀ s ∈ exP.fSlots, s.length ≤ 64 := by
  refine ⟨⟨by decide, fun s hs => ?_⟩, fun s hs x hx => ?_, fun s hs => ?_⟩
  · simp only [exP, List.mem_cons, List.not_mem_nil, or_false] at hs
    rcases hs with rfl | rfl <;> refine ⟨by decide, fun x hx => ?_⟩ <;> simp only [List.mem_cons, List.not_mem_nil, or_false] at hx <;> rcases hx with rfl | rfl <;> exact ⟨okR_of (by decide), by decide, by decide, by decide⟩
  · simp only [exP, List.mem_cons, List.not_mem_nil, or_false] at hs
    rcases hs with rfl | rfl <;> simp only [List.mem_cons, List.not_mem_nil, or_false] at hx <;> rcases hx with rfl | rfl <;> exact isRec_iff.1 (by decide)
  · simp only [exP, List.mem_cons, List.not_mem_nil, or_false] at hs
    rcases hs with rfl | rfl <;> decide

def exC : List api_Feature := [⟨[99, 97, 115, 101], [97, 99, 99]⟩, ⟨[110, 117, 109, 98, 101, 114], [112, 108]⟩]
theorem exCell : cellS exP.fDimensions 3 = (exC, true) := by decide
theorem exCount : count exP.fDimensions = 4 := by decide
theorem exNum : numP exP.fDimensions exC = 3 := by decide
def exM : List api_Feature := [⟨[99, 97, 115, 101], [97, 99, 99]⟩, ⟨[103, 101, 110, 100, 101, 114], [102]⟩, ⟨[110, 117, 109, 98, 101, 114], [112, 108]⟩]
theorem exMerge : mergeS exP.fDimensions exC exF = some exM := by decide
theorem exForm : formS exM exP.fSlots [116, 101, 107] = [97, 116, 101, 107, 107, 101] := by decide
theorem exUnder : underS exP.fDimensions exP.fSlots [116, 101, 107] exF exC = ([97, 116, 101, 107, 107, 101], 0) := by
  unfold underS
  rw [exMerge]
  simp only [exForm]
  have := runes_le [97, 116, 101, 107, 107, 101]
  rw [cneg (by simp at this; omega)]
theorem exUnused : rowsU (usedS exP.fDimensions exP.fSlots [[⟨[103, 101, 110, 100, 101, 114], [109]⟩]]) 0 exP.fSlots = [⟨1, 0⟩] := by decide

theorem awake_eq (hM : 1048576 < M) (hM2 : M ≤ 1099511627776) : pentaglotlaw10_awake M = some true := by
  obtain ⟨hs, ha, h64⟩ := exSlots
  have hsz : ([116, 101, 107] : List UInt8).length + szS exP.fSlots < M := by
    have h : ([116, 101, 107] : List UInt8).length + szS exP.fSlots ≤ 100 := by decide
    omega
  have hf : okR exF := okR_of (by decide)
  have hm : okInh [[⟨[103, 101, 110, 100, 101, 114], [109]⟩]] := ⟨by decide, fun r hr => by
    simp only [List.mem_cons, List.not_mem_nil, or_false] at hr
    subst hr
    exact okR_of (by decide)⟩
  unfold pentaglotlaw10_awake pentaglotlaw10_awake.s
  rw [example_eq, Option.bind_some, paradigm_Cell_eq hM exDims, Option.bind_some, exCell]
  have e1 : pentaglotlaw10_single M [103, 101, 110, 100, 101, 114] [102] = some exF := rfl
  have e2 : pentaglotlaw10_single M [103, 101, 110, 100, 101, 114] [109] = some [⟨[103, 101, 110, 100, 101, 114], [109]⟩] := rfl
  rw [e1, Option.bind_some, paradigm_Underlying_eq hM hM2 exDims hs ha (by decide) hf hsz, Option.bind_some, exUnder, e2, Option.bind_some, paradigm_Unused_eq hM exDims hs ha (by decide) h64 hm, Option.bind_some, exUnused, paradigm_Count_eq hM exDims, Option.bind_some, exCount, paradigm_Number_eq hM exDims (by decide), Option.bind_some, exNum]
  rfl

end Go.Ai.Pav
set_option linter.unusedVariables false
set_option linter.unusedSectionVars false
noncomputable section
namespace Go.Ai.Pav
open Go Go.Ai Go.Proofs
noncomputable def sigs28 (M : Nat) : List (Nat × Sig E) := []
noncomputable def rs28 (M : Nat) : List (Nat × Sig E) := []
noncomputable def its28 (M : Nat) : List (Nat × It E) := []
theorem sigs_ok28 (M : Nat) : SigsOk Tryd.prog (sigs28 M) := SigsOk.nil
theorem rs_ok28 (M : Nat) : SigsOk Tryd.prog (rs28 M) := SigsOk.nil
theorem its_ok28 (M : Nat) : ItsOk Tryd.prog (its28 M) := ItsOk.nil
noncomputable def C28 (M : Nat) : Ctx E := { ti := fun t => tisE.lookup t, sig := fun f => (sigs28 M).lookup f, it := fun f => (its28 M).lookup f, nt := 17 }
theorem SigOk_C28 (M : Nat) : SigOk Tryd.prog (C28 M) := sigs_ok28 M
theorem RSigOk_C28 (M : Nat) : SigOk Tryd.prog ({ ti := fun _ => none, sig := fun f => (rs28 M).lookup f } : Ctx E) := rs_ok28 M
theorem ItOk_C28 (M : Nat) : ItOk Tryd.prog (C28 M) := (its_ok28 M).ok
namespace unicode_utf8_ValidRune
noncomputable def plans : List (Option (Plan Nm)) := [none, none, none, none, none, none, none]
noncomputable abbrev body : Code := bodyOf Tryd.f28
def ps : List (Ty Nm) := [(.int .i32)]
def rs : List (Ty Nm) := [.bool]
def ex : List (Option Nat) := [none]
noncomputable def inl : List (Nat × Nat × Nat × Inl Nm) := []
theorem inl_ok : InlsOk Tryd.prog inl := InlsOk.nil
noncomputable def X (M : Nat) : Ext E Bool := extOf (C28 M) (inlOf inl) (fun f => (rs28 M).lookup f) (fun _ _ _ => none) noX M 1
abbrev Rt := Bool
noncomputable def H (M : Nat) : Hd E Rt := hd0 (X M)
theorem Hok (M : Nat) : (H M).ok (C28 M) M := hd0_ok _
abbrev Zt := List Dir → St E → Option Rt
abbrev Ut := St E → Option Rt
noncomputable def s (M : Nat) (ra0_0 : Int) : Option Rt :=
  cond (decide (0 ≤ ra0_0))
   (cond (decide (ra0_0 < 55296))
     (some true)
     (cond (decide (57343 < ra0_0))
       (cond (decide (ra0_0 ≤ 1114111))
         (some true)
         (some false))
       (some false)))
   (cond (decide (57343 < ra0_0))
     (cond (decide (ra0_0 ≤ 1114111))
       (some true)
       (some false))
     (some false))
end unicode_utf8_ValidRune
noncomputable def unicode_utf8_ValidRune (M : Nat) (ra0_0 : Int) : Option Bool :=
  unicode_utf8_ValidRune.s M ra0_0
namespace unicode_utf8_ValidRune
noncomputable def K (M : Nat) : Cont E Bool := kRet (C28 M) Tryd.f28.results.toList rs ex
set_option maxRecDepth 100000
theorem g (M : Nat) (Z : Zt) (ra0_0 : Int) : runZ (C28 M) (extZ (C28 M) (H M) 0) Z body plans (start (argHs ps ra0_0) Tryd.f28.ntmps 17) (K M) = s M ra0_0 := by kernel_rfl
theorem run (M : Nat) (ra0_0 : Int) : runF (rs := rs) (C28 M) (X M) M body Tryd.f28.ntmps 17 Tryd.f28.results.toList plans ps ex ra0_0 = unicode_utf8_ValidRune M ra0_0 := by
  refine Eq.trans (b := runC (C28 M) (X M) M body plans (start (argHs ps ra0_0) Tryd.f28.ntmps 17) (K M)) (by kernel_rfl) ?_
  refine (zrun (Hok M) 0 body plans _ (K M) (fun _ => none) fun _ => rfl).symm.trans ?_
  refine (g M _ ra0_0).trans ?_
  rfl
noncomputable def sig (M : Nat) : Sig E := { ps := ps, rs := rs, ex := ex, fn := fun x => unicode_utf8_ValidRune M x }
theorem says (M : Nat) : callable Tryd.prog 28 = true ∧ ∀ x y, (sig M).fn x = some y → Says Tryd.prog 28 (sig M) x y := by
  refine ⟨by kernel_rfl, fun x y h => ?_⟩
  refine says_of_run (S := sig M) (C := C28 M) (X := X M) (M := M) (q := 17) (plans := plans) (COk_Tryd) (SigOk_C28 M) (ItOk_C28 M) (by kernel_rfl) (callOk_ext COk_Tryd (SigOk_C28 M) (ItOk_C28 M) (by kernel_rfl) inl_ok.ok (RSigOk_C28 M) (fun _ => callOk_none) M 1) (Tryd.func28) (body := body) (by kernel_rfl) (by kernel_rfl) ?_
  exact (run M x).trans h
end unicode_utf8_ValidRune
end Go.Ai.Pav
end
set_option linter.unusedVariables false
set_option linter.unusedSectionVars false
noncomputable section
namespace Go.Ai.Pav
open Go Go.Ai Go.Proofs
noncomputable def sigs14 (M : Nat) : List (Nat × Sig E) := [(28, unicode_utf8_ValidRune.sig M)]
noncomputable def rs14 (M : Nat) : List (Nat × Sig E) := []
noncomputable def its14 (M : Nat) : List (Nat × It E) := []
theorem sigs_ok14 (M : Nat) : SigsOk Tryd.prog (sigs14 M) := SigsOk.cons (unicode_utf8_ValidRune.says M) (SigsOk.nil)
theorem rs_ok14 (M : Nat) : SigsOk Tryd.prog (rs14 M) := SigsOk.nil
theorem its_ok14 (M : Nat) : ItsOk Tryd.prog (its14 M) := ItsOk.nil
noncomputable def C14 (M : Nat) : Ctx E := { ti := fun t => tisE.lookup t, sig := fun f => (sigs14 M).lookup f, it := fun f => (its14 M).lookup f, nt := 35 }
theorem SigOk_C14 (M : Nat) : SigOk Tryd.prog (C14 M) := sigs_ok14 M
theorem RSigOk_C14 (M : Nat) : SigOk Tryd.prog ({ ti := fun _ => none, sig := fun f => (rs14 M).lookup f } : Ctx E) := rs_ok14 M
theorem ItOk_C14 (M : Nat) : ItOk Tryd.prog (C14 M) := (its_ok14 M).ok
namespace alphabet_Valid
noncomputable def plans : List (Option (Plan Nm)) := [none, none, none, none, none, some { tmps := [(0, .asis), (13, .asis), (14, .asis), (15, .asis)], boxes := [] }, none, none, none, none, none, none, some { tmps := [(0, .asis)], boxes := [] }, none]
noncomputable abbrev body : Code := bodyOf Tryd.f14
def ps : List (Ty Nm) := [(.sl (.st .api_Letter))]
def rs : List (Ty Nm) := [.bool]
def ex : List (Option Nat) := [none]
noncomputable def inl : List (Nat × Nat × Nat × Inl Nm) := [(0, 30, 29, { off := 35, ntmps := Tryd.f29.ntmps, body := bodyOf Tryd.f29, res := Tryd.f29.results.toList, plans := [none, none, none, some { tmps := [(3, .asis), (11, .asis), (12, .asis), (13, .asis)], boxes := [(45, [])], outs := [(0, .asis)] }, none, none, none, none, none, none, none, none] })]
theorem inl_ok : InlsOk Tryd.prog inl := InlsOk.cons ⟨by kernel_rfl, _, Tryd.func29, by kernel_rfl, rfl, rfl⟩ (InlsOk.nil)
noncomputable def X (M : Nat) : Ext E Bool := extOf (C14 M) (inlOf inl) (fun f => (rs14 M).lookup f) (fun _ _ _ => none) noX M 2
abbrev Rt := Bool
noncomputable def H (M : Nat) : Hd E Rt := hdOf (C14 M) (inlOf inl) (fun f => (rs14 M).lookup f) (fun _ _ _ => none) noX M
theorem Hok (M : Nat) : (H M).ok (C14 M) M := hdOf_ok
abbrev Qt3 : List Dir := [.r, .r, .r, .l, .c 1 29 35 0 false, .r, .r, .l, .r, .k]
abbrev Ht3 := (List api_Letter) → Int → (List (Int × Int)) → Option Rt
abbrev Qt2 : List Dir := [.r, .r]
abbrev Ht2 := (List api_Letter) → Option Rt
abbrev Qt1 : List Dir := [.r, .r, .l, .r, .k]
abbrev Ht1 := (List api_Letter) → Int → Option Rt
abbrev Zt := List Dir → St E → Option Rt
abbrev Ut := St E → Option Rt
noncomputable def s3 (M : Nat) (h3 : Ht3) (aa0_0 : (List api_Letter)) (x13_3 : Int) (m45_3 : (List (Int × Int))) : Option Rt :=
  cond (decide (x13_3 < (aa0_0.length : Int)))
   (cond (decide (0 ≤ x13_3) && decide (x13_3 < (aa0_0.length : Int)))
     (cond (!((mget (keyEq (E := E) (.int .i32)) m45_3 ((aa0_0.getD x13_3.toNat default).fRune)).isSome))
       (h3 aa0_0 (IntKind.i64.wrap (x13_3 + 1)) (mput (keyEq (E := E) (.int .i32)) m45_3 ((aa0_0.getD x13_3.toNat default).fRune) x13_3))
       (h3 aa0_0 (IntKind.i64.wrap (x13_3 + 1)) m45_3))
     none)
   (some (decide ((m45_3.length : Int) = (aa0_0.length : Int))))
noncomputable def l3 (M : Nat) : Nat → Ht3
  | 0, _, _, _ => none
  | k + 1, aa0_0, x13_3, m45_3 => s3 M (l3 M k) aa0_0 x13_3 m45_3
noncomputable def s2 (M : Nat) (h3 : Ht3) (aa0_0 : (List api_Letter)) : Option Rt :=
  h3 aa0_0 0 ([] : (List (Int × Int)))
noncomputable def j2 (M : Nat) (aa0_0 : (List api_Letter)) : Option Rt :=
  s2 M (l3 M M) aa0_0
noncomputable def s1 (M : Nat) (h1 : Ht1) (h2 : Ht2) (aa0_0 : (List api_Letter)) (x15_1 : Int) : Option Rt :=
  cond (decide (x15_1 < (aa0_0.length : Int)))
   (cond (decide (0 ≤ x15_1) && decide (x15_1 < (aa0_0.length : Int)))
     (cond (decide (((aa0_0.getD x15_1.toNat default).fRune) ≤ 32))
       (some false)
       (Option.bind (unicode_utf8_ValidRune M ((aa0_0.getD x15_1.toNat default).fRune)) fun r25_16 =>
        cond (!r25_16)
         (some false)
         (h1 aa0_0 (IntKind.i64.wrap (x15_1 + 1)))))
     none)
   (h2 aa0_0)
noncomputable def l1 (M : Nat) : Nat → Ht1
  | 0, _, _ => none
  | k + 1, aa0_0, x15_1 => s1 M (l1 M k) (j2 M) aa0_0 x15_1
noncomputable def s (M : Nat) (h1 : Ht1) (aa0_0 : (List api_Letter)) : Option Rt :=
  cond (decide ((aa0_0.length : Int) < 1))
   (some false)
   (cond (decide (64 < (aa0_0.length : Int)))
     (some false)
     (h1 aa0_0 0))
end alphabet_Valid
noncomputable def alphabet_Valid (M : Nat) (aa0_0 : (List api_Letter)) : Option Bool :=
  alphabet_Valid.s M (alphabet_Valid.l1 M M) aa0_0
namespace alphabet_Valid
noncomputable def S3 (aa0_0 : (List api_Letter)) (x13_3 : Int) (m45_3 : (List (Int × Int))) : St E :=
  { mkSt 33 68 [(3, .one (.mp 45)), (11, .one (.tv (.sl (.st .api_Letter) aa0_0))), (12, .one (.tv (.int .i64 (aa0_0.length : Int)))), (13, .one (.tv (.int .i64 x13_3)))] [(45, .mp (.int .i32) (.int .i64) m45_3)] 35 [(0, .one (.tv (.sl (.st .api_Letter) aa0_0)))] [] false with off := 35 }
noncomputable def S2 (aa0_0 : (List api_Letter)) : St E :=
  mkSt 35 68 [(0, .one (.tv (.sl (.st .api_Letter) aa0_0)))] [] 0 [] [] false
noncomputable def S1 (aa0_0 : (List api_Letter)) (x15_1 : Int) : St E :=
  mkSt 35 68 [(0, .one (.tv (.sl (.st .api_Letter) aa0_0))), (13, .one (.tv (.sl (.st .api_Letter) aa0_0))), (14, .one (.tv (.int .i64 (aa0_0.length : Int)))), (15, .one (.tv (.int .i64 x15_1)))] [] 0 [] [] false
noncomputable def K (M : Nat) : Cont E Bool := kRet (C14 M) Tryd.f14.results.toList rs ex
noncomputable abbrev zA (M : Nat) (ZL : List Dir → Option (Ut)) (q : List Dir) : Ut := zAt (C14 M) (H M) M 2 ZL body plans (K M) q
noncomputable abbrev lA (M : Nat) (ZL : List Dir → Option (Ut)) (q : List Dir) (k : Nat) : Ut := lpAt (C14 M) (H M) M 2 ZL body plans (K M) q k
noncomputable abbrev gA (M : Nat) (Z : Zt) (q : List Dir) : Ut := seg (C14 M) (H M) 2 Z body plans (K M) q
set_option maxRecDepth 100000
theorem g3 (M : Nat) (Z : Zt) (aa0_0 : (List api_Letter)) (x13_3 : Int) (m45_3 : (List (Int × Int))) : gA M Z Qt3 (S3 aa0_0 x13_3 m45_3) = s3 M
    (fun aa0_0 x13_3 m45_3 => Z Qt3 (S3 aa0_0 x13_3 m45_3)) aa0_0 x13_3 m45_3 := by kernel_rfl
theorem g2 (M : Nat) (Z : Zt) (aa0_0 : (List api_Letter)) : gA M Z Qt2 (S2 aa0_0) = s2 M
    (fun aa0_0 x13_3 m45_3 => Z Qt3 (S3 aa0_0 x13_3 m45_3)) aa0_0 := by kernel_rfl
theorem g1 (M : Nat) (Z : Zt) (aa0_0 : (List api_Letter)) (x15_1 : Int) : gA M Z Qt1 (S1 aa0_0 x15_1) = s1 M
    (fun aa0_0 x15_1 => Z Qt1 (S1 aa0_0 x15_1))
    (fun aa0_0 => Z Qt2 (S2 aa0_0)) aa0_0 x15_1 := by kernel_rfl
theorem g (M : Nat) (Z : Zt) (aa0_0 : (List api_Letter)) : runZ (C14 M) (extZ (C14 M) (H M) 2) Z body plans (start (argHs ps aa0_0) Tryd.f14.ntmps 68) (K M) = s M
    (fun aa0_0 x15_1 => Z Qt1 (S1 aa0_0 x15_1)) aa0_0 := by kernel_rfl
theorem el3 (M : Nat) (k : Nat) (aa0_0 : (List api_Letter)) (x13_3 : Int) (m45_3 : (List (Int × Int))) : lA M (zlq Qt3 []) Qt3 k (S3 aa0_0 x13_3 m45_3) = l3 M k aa0_0 x13_3 m45_3 := by
  induction k generalizing aa0_0 x13_3 m45_3 with
  | zero => kernel_rfl
  | succ k ih =>
    refine Eq.trans (b := lA M (zlq Qt3 [lA M (zlq Qt3 []) Qt3 k]) Qt3 (k + 1) (S3 aa0_0 x13_3 m45_3)) (by kernel_rfl) ?_
    refine (seg_loop (Hok M) 2 Qt3 body plans (K M) _ (S3 aa0_0 x13_3 m45_3) (around_zlq _ _ (by kernel_rfl)) (by kernel_rfl) (by kernel_rfl)).trans ?_
    refine (g3 M _ aa0_0 x13_3 m45_3).trans ?_
    have x0 := (funext fun aa0_0 => funext fun x13_3 => funext fun m45_3 => Eq.trans (b := lA M (zlq Qt3 []) Qt3 k (S3 aa0_0 x13_3 m45_3)) (by kernel_rfl) (ih aa0_0 x13_3 m45_3) : (fun aa0_0 x13_3 m45_3 => zA M (zlq Qt3 [lA M (zlq Qt3 []) Qt3 k]) Qt3 (S3 aa0_0 x13_3 m45_3)) = l3 M k)
    rw [x0]; rfl
theorem e3 (M : Nat) (aa0_0 : (List api_Letter)) (x13_3 : Int) (m45_3 : (List (Int × Int))) : zA M (zlq Qt3 []) Qt3 (S3 aa0_0 x13_3 m45_3) = l3 M M aa0_0 x13_3 m45_3 :=
  Eq.trans (b := lA M (zlq Qt3 []) Qt3 M (S3 aa0_0 x13_3 m45_3)) (by kernel_rfl) (el3 M M aa0_0 x13_3 m45_3)
theorem e2 (M : Nat) (aa0_0 : (List api_Letter)) : zA M (zlq Qt2 []) Qt2 (S2 aa0_0) = j2 M aa0_0 := by
  refine (seg_join (Hok M) 2 Qt2 body plans (K M) _ (S2 aa0_0) (around_zlq _ _ (by kernel_rfl)) (by kernel_rfl)).trans ?_
  refine (g2 M _ aa0_0).trans ?_
  have x0 := (funext fun aa0_0 => funext fun x13_3 => funext fun m45_3 => Eq.trans (b := zA M (zlq Qt3 []) Qt3 (S3 aa0_0 x13_3 m45_3)) (by kernel_rfl) (e3 M aa0_0 x13_3 m45_3) : (fun aa0_0 x13_3 m45_3 => zA M (zlq Qt2 []) Qt3 (S3 aa0_0 x13_3 m45_3)) = l3 M M)
  rw [x0]; rfl
theorem el1 (M : Nat) (k : Nat) (aa0_0 : (List api_Letter)) (x15_1 : Int) : lA M (zlq Qt1 []) Qt1 k (S1 aa0_0 x15_1) = l1 M k aa0_0 x15_1 := by
  induction k generalizing aa0_0 x15_1 with
  | zero => kernel_rfl
  | succ k ih =>
    refine Eq.trans (b := lA M (zlq Qt1 [lA M (zlq Qt1 []) Qt1 k]) Qt1 (k + 1) (S1 aa0_0 x15_1)) (by kernel_rfl) ?_
    refine (seg_loop (Hok M) 2 Qt1 body plans (K M) _ (S1 aa0_0 x15_1) (around_zlq _ _ (by kernel_rfl)) (by kernel_rfl) (by kernel_rfl)).trans ?_
    refine (g1 M _ aa0_0 x15_1).trans ?_
    have x0 := (funext fun aa0_0 => funext fun x15_1 => Eq.trans (b := lA M (zlq Qt1 []) Qt1 k (S1 aa0_0 x15_1)) (by kernel_rfl) (ih aa0_0 x15_1) : (fun aa0_0 x15_1 => zA M (zlq Qt1 [lA M (zlq Qt1 []) Qt1 k]) Qt1 (S1 aa0_0 x15_1)) = l1 M k)
    have x1 := (funext fun aa0_0 => Eq.trans (b := zA M (zlq Qt2 []) Qt2 (S2 aa0_0)) (by kernel_rfl) (e2 M aa0_0) : (fun aa0_0 => zA M (zlq Qt1 [lA M (zlq Qt1 []) Qt1 k]) Qt2 (S2 aa0_0)) = j2 M)
    rw [x0, x1]; rfl
theorem e1 (M : Nat) (aa0_0 : (List api_Letter)) (x15_1 : Int) : zA M (zlq Qt1 []) Qt1 (S1 aa0_0 x15_1) = l1 M M aa0_0 x15_1 :=
  Eq.trans (b := lA M (zlq Qt1 []) Qt1 M (S1 aa0_0 x15_1)) (by kernel_rfl) (el1 M M aa0_0 x15_1)
theorem run (M : Nat) (aa0_0 : (List api_Letter)) : runF (rs := rs) (C14 M) (X M) M body Tryd.f14.ntmps 68 Tryd.f14.results.toList plans ps ex aa0_0 = alphabet_Valid M aa0_0 := by
  refine Eq.trans (b := runC (C14 M) (X M) M body plans (start (argHs ps aa0_0) Tryd.f14.ntmps 68) (K M)) (by kernel_rfl) ?_
  refine (zrun (Hok M) 2 body plans _ (K M) (fun _ => none) fun _ => rfl).symm.trans ?_
  refine (g M _ aa0_0).trans ?_
  have x0 := (funext fun aa0_0 => funext fun x15_1 => Eq.trans (b := zA M (zlq Qt1 []) Qt1 (S1 aa0_0 x15_1)) (by kernel_rfl) (e1 M aa0_0 x15_1) : (fun aa0_0 x15_1 => zA M (fun _ => none) Qt1 (S1 aa0_0 x15_1)) = l1 M M)
  rw [x0]; rfl
noncomputable def sig (M : Nat) : Sig E := { ps := ps, rs := rs, ex := ex, fn := fun x => alphabet_Valid M x }
theorem says (M : Nat) : callable Tryd.prog 14 = true ∧ ∀ x y, (sig M).fn x = some y → Says Tryd.prog 14 (sig M) x y := by
  refine ⟨by kernel_rfl, fun x y h => ?_⟩
  refine says_of_run (S := sig M) (C := C14 M) (X := X M) (M := M) (q := 68) (plans := plans) (COk_Tryd) (SigOk_C14 M) (ItOk_C14 M) (by kernel_rfl) (callOk_ext COk_Tryd (SigOk_C14 M) (ItOk_C14 M) (by kernel_rfl) inl_ok.ok (RSigOk_C14 M) (fun _ => callOk_none) M 2) (Tryd.func14) (body := body) (by kernel_rfl) (by kernel_rfl) ?_
  exact (run M x).trans h
end alphabet_Valid
end Go.Ai.Pav
end
/- utf8.ValidString: its contract. -/
noncomputable section
namespace Go.Ai.Pav
open Go Go.Ai Go.Proofs

namespace unicode_utf8_ValidString
def ps : List (Ty Nm) := [.str]
def rs : List (Ty Nm) := [.bool]
def ex : List (Option Nat) := [none]
end unicode_utf8_ValidString
def unicode_utf8_ValidString (M : Nat) (s : List UInt8) : Option Bool := cond (decide (s.length ≤ 9223372036854775807)) (some (Lib.validD s)) none
namespace unicode_utf8_ValidString
def sig (M : Nat) : Sig E := { ps := ps, rs := rs, ex := ex, fn := fun x => unicode_utf8_ValidString M x }
theorem says (M : Nat) : callable Tryd.prog 31 = true ∧ ∀ x y, (sig M).fn x = some y → Says Tryd.prog 31 (sig M) x y := by
  refine ⟨by kernel_rfl, ?_⟩
  intro (x : List UInt8) (y : Bool) h w F args d hlt htab hargs
  have h : unicode_utf8_ValidString M x = some y := h
  unfold unicode_utf8_ValidString at h
  cases hl : decide (x.length ≤ 9223372036854775807) with
  | false => rw [hl] at h; cases h
  | true =>
    rw [hl] at h
    have hl : x.length ≤ 9223372036854775807 := of_decide_eq_true hl
    have hy : y = Lib.validD x := (Option.some.inj h).symm
    subst hy
    have hT : Lib.Utf8Tabs 0 1 w := htab.2.2
    obtain ⟨v, rfl, hv⟩ : ∃ v, args = [v] ∧ HRep (E := E) w noSite noTok F (.one (.tv (.str x))) v := by
      match args, hargs with
      | [v], hargs => exact ⟨v, rfl, hargs.1⟩
    obtain ⟨u, hu, hr⟩ : ∃ u, v = u ∧ Rep (E := E) w F (.str x) u := ⟨v, rfl, hv⟩
    subst hu
    have hx : v = .string ⟨x.toArray⟩ := by
      cases hr with
      | str s => simp
    subst hx
    have hc := Any.utf8_ValidString Tryd.laysValid ⟨x.toArray⟩ w (by show x.toArray.size ≤ _; simpa using hl) hT
    refine hc.mono ?_
    rintro e w' ⟨rfl, hb⟩
    refine ⟨_, noTok, F, rfl, hb, fun _ _ h => h, fun _ _ h => .inl h, fun b o h => Nat.lt_of_lt_of_le (hlt b o h) hb.size, ?_, fun k u h => (by cases h), fun k k' u u' g h => (by cases h)⟩
    show Rep (E := E) w' F (.bool (Lib.validD x)) (.bool (Lib.validD x))
    exact .bool _
end unicode_utf8_ValidString
end Go.Ai.Pav
end
set_option linter.unusedVariables false
set_option linter.unusedSectionVars false
noncomputable section
namespace Go.Ai.Pav
open Go Go.Ai Go.Proofs
noncomputable def sigs16 (M : Nat) : List (Nat × Sig E) := [(31, unicode_utf8_ValidString.sig M)]
noncomputable def rs16 (M : Nat) : List (Nat × Sig E) := []
noncomputable def its16 (M : Nat) : List (Nat × It E) := []
theorem sigs_ok16 (M : Nat) : SigsOk Tryd.prog (sigs16 M) := SigsOk.cons (unicode_utf8_ValidString.says M) (SigsOk.nil)
theorem rs_ok16 (M : Nat) : SigsOk Tryd.prog (rs16 M) := SigsOk.nil
theorem its_ok16 (M : Nat) : ItsOk Tryd.prog (its16 M) := ItsOk.nil
noncomputable def C16 (M : Nat) : Ctx E := { ti := fun t => tisE.lookup t, sig := fun f => (sigs16 M).lookup f, it := fun f => (its16 M).lookup f, nt := 33 }
theorem SigOk_C16 (M : Nat) : SigOk Tryd.prog (C16 M) := sigs_ok16 M
theorem RSigOk_C16 (M : Nat) : SigOk Tryd.prog ({ ti := fun _ => none, sig := fun f => (rs16 M).lookup f } : Ctx E) := rs_ok16 M
theorem ItOk_C16 (M : Nat) : ItOk Tryd.prog (C16 M) := (its_ok16 M).ok
namespace alphabet_IsWord
noncomputable def plans : List (Option (Plan Nm)) := [none, none, none, none, none, none, some { tmps := [(5, .asis), (6, .asis), (17, .asis)], boxes := [(43, []), (17, [])] }, none, none, none, none, none, none, none, none, none]
noncomputable abbrev body : Code := bodyOf Tryd.f16
def ps : List (Ty Nm) := [(.sl (.st .api_Letter)), .str]
def rs : List (Ty Nm) := [.bool]
def ex : List (Option Nat) := [none]
noncomputable def inl : List (Nat × Nat × Nat × Inl Nm) := [(0, 15, 29, { off := 33, ntmps := Tryd.f29.ntmps, body := bodyOf Tryd.f29, res := Tryd.f29.results.toList, plans := [none, none, none, some { tmps := [(3, .asis), (11, .asis), (12, .asis), (13, .asis)], boxes := [(43, [])], outs := [(1, .asis)] }, none, none, none, none, none, none, none, none] })]
theorem inl_ok : InlsOk Tryd.prog inl := InlsOk.cons ⟨by kernel_rfl, _, Tryd.func29, by kernel_rfl, rfl, rfl⟩ (InlsOk.nil)
noncomputable def X (M : Nat) : Ext E Bool := extOf (C16 M) (inlOf inl) (fun f => (rs16 M).lookup f) (fun _ _ _ => none) noX M 2
abbrev Rt := Bool
noncomputable def H (M : Nat) : Hd E Rt := hdOf (C16 M) (inlOf inl) (fun f => (rs16 M).lookup f) (fun _ _ _ => none) noX M
theorem Hok (M : Nat) : (H M).ok (C16 M) M := hdOf_ok
abbrev Qt2 : List Dir := [.r, .r, .r, .l, .r, .k]
abbrev Ht2 := (List (Int × Int)) → (List UInt8) → Int → Nat → Option Rt
abbrev Qt1 : List Dir := [.r, .r, .l, .c 1 29 33 0 false, .r, .r, .l, .r, .k]
abbrev Ht1 := (List api_Letter) → (List UInt8) → Int → (List (Int × Int)) → Option Rt
abbrev Zt := List Dir → St E → Option Rt
abbrev Ut := St E → Option Rt
noncomputable def s2 (M : Nat) (h2 : Ht2) (m43_1 : (List (Int × Int))) (sa1_0 : (List UInt8)) (n6_2 : Int) (p17_2 : Nat) : Option Rt :=
  cond (decide (p17_2 < sa1_0.length))
   (cond (!((mget (keyEq (E := E) (.int .i32)) m43_1 ((dec sa1_0 p17_2).1 : Int)).isSome))
     (some false)
     (h2 m43_1 sa1_0 (IntKind.i64.wrap (n6_2 + 1)) (p17_2 + (dec sa1_0 p17_2).2)))
   (some (decide (n6_2 ≤ 40)))
noncomputable def l2 (M : Nat) : Nat → Ht2
  | 0, _, _, _, _ => none
  | k + 1, m43_1, sa1_0, n6_2, p17_2 => s2 M (l2 M k) m43_1 sa1_0 n6_2 p17_2
noncomputable def s1 (M : Nat) (h1 : Ht1) (h2 : Ht2) (aa0_0 : (List api_Letter)) (sa1_0 : (List UInt8)) (x13_1 : Int) (m43_1 : (List (Int × Int))) : Option Rt :=
  cond (decide (x13_1 < (aa0_0.length : Int)))
   (cond (decide (0 ≤ x13_1) && decide (x13_1 < (aa0_0.length : Int)))
     (cond (!((mget (keyEq (E := E) (.int .i32)) m43_1 ((aa0_0.getD x13_1.toNat default).fRune)).isSome))
       (h1 aa0_0 sa1_0 (IntKind.i64.wrap (x13_1 + 1)) (mput (keyEq (E := E) (.int .i32)) m43_1 ((aa0_0.getD x13_1.toNat default).fRune) x13_1))
       (h1 aa0_0 sa1_0 (IntKind.i64.wrap (x13_1 + 1)) m43_1))
     none)
   (h2 m43_1 sa1_0 0 0)
noncomputable def l1 (M : Nat) : Nat → Ht1
  | 0, _, _, _, _ => none
  | k + 1, aa0_0, sa1_0, x13_1, m43_1 => s1 M (l1 M k) (l2 M M) aa0_0 sa1_0 x13_1 m43_1
noncomputable def s (M : Nat) (h1 : Ht1) (aa0_0 : (List api_Letter)) (sa1_0 : (List UInt8)) : Option Rt :=
  Option.bind (unicode_utf8_ValidString M sa1_0) fun r12_2 =>
  cond (!r12_2)
   (some false)
   (h1 aa0_0 sa1_0 0 ([] : (List (Int × Int))))
end alphabet_IsWord
noncomputable def alphabet_IsWord (M : Nat) (aa0_0 : (List api_Letter)) (sa1_0 : (List UInt8)) : Option Bool :=
  alphabet_IsWord.s M (alphabet_IsWord.l1 M M) aa0_0 sa1_0
namespace alphabet_IsWord
noncomputable def S2 (m43_1 : (List (Int × Int))) (sa1_0 : (List UInt8)) (n6_2 : Int) (p17_2 : Nat) : St E :=
  mkSt 33 66 [(5, .one (.mp 43)), (6, .one (.tv (.int .i64 n6_2))), (17, .one (.ptr 17 0))] [(17, .iter sa1_0 p17_2), (43, .mp (.int .i32) (.int .i64) m43_1)] 0 [] [] false
noncomputable def S1 (aa0_0 : (List api_Letter)) (sa1_0 : (List UInt8)) (x13_1 : Int) (m43_1 : (List (Int × Int))) : St E :=
  { mkSt 33 66 [(3, .one (.mp 43)), (11, .one (.tv (.sl (.st .api_Letter) aa0_0))), (12, .one (.tv (.int .i64 (aa0_0.length : Int)))), (13, .one (.tv (.int .i64 x13_1)))] [(43, .mp (.int .i32) (.int .i64) m43_1)] 33 [(1, .one (.tv (.str sa1_0)))] [] false with off := 33 }
noncomputable def K (M : Nat) : Cont E Bool := kRet (C16 M) Tryd.f16.results.toList rs ex
noncomputable abbrev zA (M : Nat) (ZL : List Dir → Option (Ut)) (q : List Dir) : Ut := zAt (C16 M) (H M) M 2 ZL body plans (K M) q
noncomputable abbrev lA (M : Nat) (ZL : List Dir → Option (Ut)) (q : List Dir) (k : Nat) : Ut := lpAt (C16 M) (H M) M 2 ZL body plans (K M) q k
noncomputable abbrev gA (M : Nat) (Z : Zt) (q : List Dir) : Ut := seg (C16 M) (H M) 2 Z body plans (K M) q
set_option maxRecDepth 100000
theorem g2 (M : Nat) (Z : Zt) (m43_1 : (List (Int × Int))) (sa1_0 : (List UInt8)) (n6_2 : Int) (p17_2 : Nat) : gA M Z Qt2 (S2 m43_1 sa1_0 n6_2 p17_2) = s2 M
    (fun m43_1 sa1_0 n6_2 p17_2 => Z Qt2 (S2 m43_1 sa1_0 n6_2 p17_2)) m43_1 sa1_0 n6_2 p17_2 := by kernel_rfl
theorem g1 (M : Nat) (Z : Zt) (aa0_0 : (List api_Letter)) (sa1_0 : (List UInt8)) (x13_1 : Int) (m43_1 : (List (Int × Int))) : gA M Z Qt1 (S1 aa0_0 sa1_0 x13_1 m43_1) = s1 M
    (fun aa0_0 sa1_0 x13_1 m43_1 => Z Qt1 (S1 aa0_0 sa1_0 x13_1 m43_1))
    (fun m43_1 sa1_0 n6_2 p17_2 => Z Qt2 (S2 m43_1 sa1_0 n6_2 p17_2)) aa0_0 sa1_0 x13_1 m43_1 := by kernel_rfl
theorem g (M : Nat) (Z : Zt) (aa0_0 : (List api_Letter)) (sa1_0 : (List UInt8)) : runZ (C16 M) (extZ (C16 M) (H M) 2) Z body plans (start (argHs ps (aa0_0, sa1_0)) Tryd.f16.ntmps 66) (K M) = s M
    (fun aa0_0 sa1_0 x13_1 m43_1 => Z Qt1 (S1 aa0_0 sa1_0 x13_1 m43_1)) aa0_0 sa1_0 := by kernel_rfl
theorem el2 (M : Nat) (k : Nat) (m43_1 : (List (Int × Int))) (sa1_0 : (List UInt8)) (n6_2 : Int) (p17_2 : Nat) : lA M (zlq Qt2 []) Qt2 k (S2 m43_1 sa1_0 n6_2 p17_2) = l2 M k m43_1 sa1_0 n6_2 p17_2 := by
  induction k generalizing m43_1 sa1_0 n6_2 p17_2 with
  | zero => kernel_rfl
  | succ k ih =>
    refine Eq.trans (b := lA M (zlq Qt2 [lA M (zlq Qt2 []) Qt2 k]) Qt2 (k + 1) (S2 m43_1 sa1_0 n6_2 p17_2)) (by kernel_rfl) ?_
    refine (seg_loop (Hok M) 2 Qt2 body plans (K M) _ (S2 m43_1 sa1_0 n6_2 p17_2) (around_zlq _ _ (by kernel_rfl)) (by kernel_rfl) (by kernel_rfl)).trans ?_
    refine (g2 M _ m43_1 sa1_0 n6_2 p17_2).trans ?_
    have x0 := (funext fun m43_1 => funext fun sa1_0 => funext fun n6_2 => funext fun p17_2 => Eq.trans (b := lA M (zlq Qt2 []) Qt2 k (S2 m43_1 sa1_0 n6_2 p17_2)) (by kernel_rfl) (ih m43_1 sa1_0 n6_2 p17_2) : (fun m43_1 sa1_0 n6_2 p17_2 => zA M (zlq Qt2 [lA M (zlq Qt2 []) Qt2 k]) Qt2 (S2 m43_1 sa1_0 n6_2 p17_2)) = l2 M k)
    rw [x0]; rfl
theorem e2 (M : Nat) (m43_1 : (List (Int × Int))) (sa1_0 : (List UInt8)) (n6_2 : Int) (p17_2 : Nat) : zA M (zlq Qt2 []) Qt2 (S2 m43_1 sa1_0 n6_2 p17_2) = l2 M M m43_1 sa1_0 n6_2 p17_2 :=
  Eq.trans (b := lA M (zlq Qt2 []) Qt2 M (S2 m43_1 sa1_0 n6_2 p17_2)) (by kernel_rfl) (el2 M M m43_1 sa1_0 n6_2 p17_2)
theorem el1 (M : Nat) (k : Nat) (aa0_0 : (List api_Letter)) (sa1_0 : (List UInt8)) (x13_1 : Int) (m43_1 : (List (Int × Int))) : lA M (zlq Qt1 []) Qt1 k (S1 aa0_0 sa1_0 x13_1 m43_1) = l1 M k aa0_0 sa1_0 x13_1 m43_1 := by
  induction k generalizing aa0_0 sa1_0 x13_1 m43_1 with
  | zero => kernel_rfl
  | succ k ih =>
    refine Eq.trans (b := lA M (zlq Qt1 [lA M (zlq Qt1 []) Qt1 k]) Qt1 (k + 1) (S1 aa0_0 sa1_0 x13_1 m43_1)) (by kernel_rfl) ?_
    refine (seg_loop (Hok M) 2 Qt1 body plans (K M) _ (S1 aa0_0 sa1_0 x13_1 m43_1) (around_zlq _ _ (by kernel_rfl)) (by kernel_rfl) (by kernel_rfl)).trans ?_
    refine (g1 M _ aa0_0 sa1_0 x13_1 m43_1).trans ?_
    have x0 := (funext fun aa0_0 => funext fun sa1_0 => funext fun x13_1 => funext fun m43_1 => Eq.trans (b := lA M (zlq Qt1 []) Qt1 k (S1 aa0_0 sa1_0 x13_1 m43_1)) (by kernel_rfl) (ih aa0_0 sa1_0 x13_1 m43_1) : (fun aa0_0 sa1_0 x13_1 m43_1 => zA M (zlq Qt1 [lA M (zlq Qt1 []) Qt1 k]) Qt1 (S1 aa0_0 sa1_0 x13_1 m43_1)) = l1 M k)
    have x1 := (funext fun m43_1 => funext fun sa1_0 => funext fun n6_2 => funext fun p17_2 => Eq.trans (b := zA M (zlq Qt2 []) Qt2 (S2 m43_1 sa1_0 n6_2 p17_2)) (by kernel_rfl) (e2 M m43_1 sa1_0 n6_2 p17_2) : (fun m43_1 sa1_0 n6_2 p17_2 => zA M (zlq Qt1 [lA M (zlq Qt1 []) Qt1 k]) Qt2 (S2 m43_1 sa1_0 n6_2 p17_2)) = l2 M M)
    rw [x0, x1]; rfl
theorem e1 (M : Nat) (aa0_0 : (List api_Letter)) (sa1_0 : (List UInt8)) (x13_1 : Int) (m43_1 : (List (Int × Int))) : zA M (zlq Qt1 []) Qt1 (S1 aa0_0 sa1_0 x13_1 m43_1) = l1 M M aa0_0 sa1_0 x13_1 m43_1 :=
  Eq.trans (b := lA M (zlq Qt1 []) Qt1 M (S1 aa0_0 sa1_0 x13_1 m43_1)) (by kernel_rfl) (el1 M M aa0_0 sa1_0 x13_1 m43_1)
theorem run (M : Nat) (aa0_0 : (List api_Letter)) (sa1_0 : (List UInt8)) : runF (rs := rs) (C16 M) (X M) M body Tryd.f16.ntmps 66 Tryd.f16.results.toList plans ps ex (aa0_0, sa1_0) = alphabet_IsWord M aa0_0 sa1_0 := by
  refine Eq.trans (b := runC (C16 M) (X M) M body plans (start (argHs ps (aa0_0, sa1_0)) Tryd.f16.ntmps 66) (K M)) (by kernel_rfl) ?_
  refine (zrun (Hok M) 2 body plans _ (K M) (fun _ => none) fun _ => rfl).symm.trans ?_
  refine (g M _ aa0_0 sa1_0).trans ?_
  have x0 := (funext fun aa0_0 => funext fun sa1_0 => funext fun x13_1 => funext fun m43_1 => Eq.trans (b := zA M (zlq Qt1 []) Qt1 (S1 aa0_0 sa1_0 x13_1 m43_1)) (by kernel_rfl) (e1 M aa0_0 sa1_0 x13_1 m43_1) : (fun aa0_0 sa1_0 x13_1 m43_1 => zA M (fun _ => none) Qt1 (S1 aa0_0 sa1_0 x13_1 m43_1)) = l1 M M)
  rw [x0]; rfl
noncomputable def sig (M : Nat) : Sig E := { ps := ps, rs := rs, ex := ex, fn := fun x => alphabet_IsWord M x.1 x.2 }
theorem says (M : Nat) : callable Tryd.prog 16 = true ∧ ∀ x y, (sig M).fn x = some y → Says Tryd.prog 16 (sig M) x y := by
  refine ⟨by kernel_rfl, fun x y h => ?_⟩
  refine says_of_run (S := sig M) (C := C16 M) (X := X M) (M := M) (q := 66) (plans := plans) (COk_Tryd) (SigOk_C16 M) (ItOk_C16 M) (by kernel_rfl) (callOk_ext COk_Tryd (SigOk_C16 M) (ItOk_C16 M) (by kernel_rfl) inl_ok.ok (RSigOk_C16 M) (fun _ => callOk_none) M 2) (Tryd.func16) (body := body) (by kernel_rfl) (by kernel_rfl) ?_
  obtain ⟨aa0_0, sa1_0⟩ := x
  exact (run M aa0_0 sa1_0).trans h
end alphabet_IsWord
end Go.Ai.Pav
end
set_option linter.unusedVariables false
set_option linter.unusedSectionVars false
noncomputable section
namespace Go.Ai.Pav
open Go Go.Ai Go.Proofs
noncomputable def sigs5 (M : Nat) : List (Nat × Sig E) := [(12, paradigm_Count.sig M), (14, alphabet_Valid.sig M), (15, feature_Valid.sig M), (16, alphabet_IsWord.sig M)]
noncomputable def rs5 (M : Nat) : List (Nat × Sig E) := []
noncomputable def its5 (M : Nat) : List (Nat × It E) := []
theorem sigs_ok5 (M : Nat) : SigsOk Tryd.prog (sigs5 M) := SigsOk.cons (paradigm_Count.says M) (SigsOk.cons (alphabet_Valid.says M) (SigsOk.cons (feature_Valid.says M) (SigsOk.cons (alphabet_IsWord.says M) (SigsOk.nil))))
theorem rs_ok5 (M : Nat) : SigsOk Tryd.prog (rs5 M) := SigsOk.nil
theorem its_ok5 (M : Nat) : ItsOk Tryd.prog (its5 M) := ItsOk.nil
noncomputable def C5 (M : Nat) : Ctx E := { ti := fun t => tisE.lookup t, sig := fun f => (sigs5 M).lookup f, it := fun f => (its5 M).lookup f, nt := 67 }
theorem SigOk_C5 (M : Nat) : SigOk Tryd.prog (C5 M) := sigs_ok5 M
theorem RSigOk_C5 (M : Nat) : SigOk Tryd.prog ({ ti := fun _ => none, sig := fun f => (rs5 M).lookup f } : Ctx E) := rs_ok5 M
theorem ItOk_C5 (M : Nat) : ItOk Tryd.prog (C5 M) := (its_ok5 M).ok
namespace paradigm_Valid
noncomputable def plans : List (Option (Plan Nm)) := [none, none, none, none, none, some { tmps := [(0, .asis), (32, .asis), (33, .asis), (34, .asis)], boxes := [] }, none, none, none, none, none, none, none, some { tmps := [(0, .asis), (32, .asis), (33, .asis), (34, .asis), (41, .asis), (42, .asis), (43, .asis)], boxes := [] }, none, none, none, none, none, none, none, none, none]
noncomputable abbrev body : Code := bodyOf Tryd.f5
def ps : List (Ty Nm) := [(.sl (.st .api_Letter)), (.st .api_Paradigm)]
def rs : List (Ty Nm) := [.bool]
def ex : List (Option Nat) := [none]
noncomputable def inl : List (Nat × Nat × Nat × Inl Nm) := []
theorem inl_ok : InlsOk Tryd.prog inl := InlsOk.nil
noncomputable def X (M : Nat) : Ext E Bool := extOf (C5 M) (inlOf inl) (fun f => (rs5 M).lookup f) (fun _ _ _ => none) noX M 1
abbrev Rt := Bool
noncomputable def H (M : Nat) : Hd E Rt := hd0 (X M)
theorem Hok (M : Nat) : (H M).ok (C5 M) M := hd0_ok _
abbrev Qt2 : List Dir := [.r, .r, .l, .r, .k, .L, .r, .r, .l, .k, .r, .r, .r, .k]
abbrev Ht2 := (List api_Letter) → api_Paradigm → Int → Int → Option Rt
abbrev Qt1 : List Dir := [.r, .r, .l, .r, .k]
abbrev Ht1 := (List api_Letter) → api_Paradigm → Int → Option Rt
abbrev Zt := List Dir → St E → Option Rt
abbrev Ut := St E → Option Rt
noncomputable def s2 (M : Nat) (h1 : Ht1) (h2 : Ht2) (aa0_0 : (List api_Letter)) (pa1_0 : api_Paradigm) (x34_1 : Int) (x43_2 : Int) : Option Rt :=
  cond (decide (x43_2 < ((pa1_0.fSlots.getD x34_1.toNat default).length : Int)))
   (cond (decide (0 ≤ x43_2) && decide (x43_2 < ((pa1_0.fSlots.getD x34_1.toNat default).length : Int)))
     (Option.bind (feature_Valid M (((pa1_0.fSlots.getD x34_1.toNat default).getD x43_2.toNat default).fWhen)) fun r49_106 =>
      cond (!r49_106)
       (some false)
       (Option.bind (alphabet_IsWord M aa0_0 (((pa1_0.fSlots.getD x34_1.toNat default).getD x43_2.toNat default).fPrefix)) fun r55_107 =>
        cond (!r55_107)
         (some false)
         (Option.bind (alphabet_IsWord M aa0_0 (((pa1_0.fSlots.getD x34_1.toNat default).getD x43_2.toNat default).fSuffix)) fun r62_108 =>
          cond (!r62_108)
           (some false)
           (h2 aa0_0 pa1_0 x34_1 (IntKind.i64.wrap (x43_2 + 1))))))
     none)
   (h1 aa0_0 pa1_0 (IntKind.i64.wrap (x34_1 + 1)))
noncomputable def l2 (M : Nat) (h1 : Ht1) : Nat → Ht2
  | 0, _, _, _, _ => none
  | k + 1, aa0_0, pa1_0, x34_1, x43_2 => s2 M h1 (l2 M h1 k) aa0_0 pa1_0 x34_1 x43_2
noncomputable def s1 (M : Nat) (h2 : Ht2) (aa0_0 : (List api_Letter)) (pa1_0 : api_Paradigm) (x34_1 : Int) : Option Rt :=
  cond (decide (x34_1 < (pa1_0.fSlots.length : Int)))
   (cond (decide (0 ≤ x34_1) && decide (x34_1 < (pa1_0.fSlots.length : Int)))
     (cond (decide (64 < ((pa1_0.fSlots.getD x34_1.toNat default).length : Int)))
       (some false)
       (h2 aa0_0 pa1_0 x34_1 0))
     none)
   (some true)
noncomputable def l1 (M : Nat) : Nat → Ht1
  | 0, _, _, _ => none
  | k + 1, aa0_0, pa1_0, x34_1 => s1 M (l2 M (l1 M k) M) aa0_0 pa1_0 x34_1
noncomputable def s (M : Nat) (h1 : Ht1) (aa0_0 : (List api_Letter)) (pa1_0 : api_Paradigm) : Option Rt :=
  Option.bind (alphabet_Valid M aa0_0) fun r10_10 =>
  cond (!r10_10)
   (some false)
   (Option.bind (feature_Valid M ([api_Feature.mk pa1_0.fName [120]])) fun r17_11 =>
    cond (!r17_11)
     (some false)
     (Option.bind (paradigm_Count M pa1_0) fun r22_12 =>
      cond (decide (r22_12 = 0))
       (some false)
       (cond (decide (8 < (pa1_0.fSlots.length : Int)))
         (some false)
         (h1 aa0_0 pa1_0 0))))
end paradigm_Valid
noncomputable def paradigm_Valid (M : Nat) (aa0_0 : (List api_Letter)) (pa1_0 : api_Paradigm) : Option Bool :=
  paradigm_Valid.s M (paradigm_Valid.l1 M M) aa0_0 pa1_0
namespace paradigm_Valid
noncomputable def S2 (aa0_0 : (List api_Letter)) (pa1_0 : api_Paradigm) (x34_1 : Int) (x43_2 : Int) : St E :=
  mkSt 67 67 [(0, .one (.tv (.sl (.st .api_Letter) aa0_0))), (32, .one (.tv (.sl (.sl (.st .api_Affix)) pa1_0.fSlots))), (33, .one (.tv (.int .i64 (pa1_0.fSlots.length : Int)))), (34, .one (.tv (.int .i64 x34_1))), (41, .one (.tv (.sl (.st .api_Affix) (pa1_0.fSlots.getD x34_1.toNat default)))), (42, .one (.tv (.int .i64 ((pa1_0.fSlots.getD x34_1.toNat default).length : Int)))), (43, .one (.tv (.int .i64 x43_2)))] [] 0 [] [] false
noncomputable def S1 (aa0_0 : (List api_Letter)) (pa1_0 : api_Paradigm) (x34_1 : Int) : St E :=
  mkSt 67 67 [(0, .one (.tv (.sl (.st .api_Letter) aa0_0))), (32, .one (.tv (.sl (.sl (.st .api_Affix)) pa1_0.fSlots))), (33, .one (.tv (.int .i64 (pa1_0.fSlots.length : Int)))), (34, .one (.tv (.int .i64 x34_1)))] [] 0 [] [] false
noncomputable def K (M : Nat) : Cont E Bool := kRet (C5 M) Tryd.f5.results.toList rs ex
noncomputable abbrev zA (M : Nat) (ZL : List Dir → Option (Ut)) (q : List Dir) : Ut := zAt (C5 M) (H M) M 0 ZL body plans (K M) q
noncomputable abbrev lA (M : Nat) (ZL : List Dir → Option (Ut)) (q : List Dir) (k : Nat) : Ut := lpAt (C5 M) (H M) M 0 ZL body plans (K M) q k
noncomputable abbrev gA (M : Nat) (Z : Zt) (q : List Dir) : Ut := seg (C5 M) (H M) 0 Z body plans (K M) q
set_option maxRecDepth 100000
theorem g2 (M : Nat) (Z : Zt) (aa0_0 : (List api_Letter)) (pa1_0 : api_Paradigm) (x34_1 : Int) (x43_2 : Int) : gA M Z Qt2 (S2 aa0_0 pa1_0 x34_1 x43_2) = s2 M
    (fun aa0_0 pa1_0 x34_1 => Z Qt1 (S1 aa0_0 pa1_0 x34_1))
    (fun aa0_0 pa1_0 x34_1 x43_2 => Z Qt2 (S2 aa0_0 pa1_0 x34_1 x43_2)) aa0_0 pa1_0 x34_1 x43_2 := by kernel_rfl
theorem g1 (M : Nat) (Z : Zt) (aa0_0 : (List api_Letter)) (pa1_0 : api_Paradigm) (x34_1 : Int) : gA M Z Qt1 (S1 aa0_0 pa1_0 x34_1) = s1 M
    (fun aa0_0 pa1_0 x34_1 x43_2 => Z Qt2 (S2 aa0_0 pa1_0 x34_1 x43_2)) aa0_0 pa1_0 x34_1 := by kernel_rfl
theorem g (M : Nat) (Z : Zt) (aa0_0 : (List api_Letter)) (pa1_0 : api_Paradigm) : runZ (C5 M) (extZ (C5 M) (H M) 0) Z body plans (start (argHs ps (aa0_0, pa1_0)) Tryd.f5.ntmps 67) (K M) = s M
    (fun aa0_0 pa1_0 x34_1 => Z Qt1 (S1 aa0_0 pa1_0 x34_1)) aa0_0 pa1_0 := by kernel_rfl
theorem el2 (M : Nat) (Z1 : Ut) (h1 : Ht1) (hZ1 : ∀ (aa0_0 : (List api_Letter)) (pa1_0 : api_Paradigm) (x34_1 : Int), Z1 (S1 aa0_0 pa1_0 x34_1) = h1 aa0_0 pa1_0 x34_1) (k : Nat) (aa0_0 : (List api_Letter)) (pa1_0 : api_Paradigm) (x34_1 : Int) (x43_2 : Int) : lA M (zlq Qt2 [Z1]) Qt2 k (S2 aa0_0 pa1_0 x34_1 x43_2) = l2 M h1 k aa0_0 pa1_0 x34_1 x43_2 := by
  induction k generalizing aa0_0 pa1_0 x34_1 x43_2 with
  | zero => kernel_rfl
  | succ k ih =>
    refine Eq.trans (b := lA M (zlq Qt2 [Z1, lA M (zlq Qt2 [Z1]) Qt2 k]) Qt2 (k + 1) (S2 aa0_0 pa1_0 x34_1 x43_2)) (by kernel_rfl) ?_
    refine (seg_loop (Hok M) 0 Qt2 body plans (K M) _ (S2 aa0_0 pa1_0 x34_1 x43_2) (around_zlq _ _ (by kernel_rfl)) (by kernel_rfl) (by kernel_rfl)).trans ?_
    refine (g2 M _ aa0_0 pa1_0 x34_1 x43_2).trans ?_
    have x0 := (funext fun aa0_0 => funext fun pa1_0 => funext fun x34_1 => Eq.trans (b := Z1 (S1 aa0_0 pa1_0 x34_1)) (by kernel_rfl) (hZ1 aa0_0 pa1_0 x34_1) : (fun aa0_0 pa1_0 x34_1 => zA M (zlq Qt2 [Z1, lA M (zlq Qt2 [Z1]) Qt2 k]) Qt1 (S1 aa0_0 pa1_0 x34_1)) = h1)
    have x1 := (funext fun aa0_0 => funext fun pa1_0 => funext fun x34_1 => funext fun x43_2 => Eq.trans (b := lA M (zlq Qt2 [Z1]) Qt2 k (S2 aa0_0 pa1_0 x34_1 x43_2)) (by kernel_rfl) (ih aa0_0 pa1_0 x34_1 x43_2) : (fun aa0_0 pa1_0 x34_1 x43_2 => zA M (zlq Qt2 [Z1, lA M (zlq Qt2 [Z1]) Qt2 k]) Qt2 (S2 aa0_0 pa1_0 x34_1 x43_2)) = l2 M h1 k)
    rw [x0, x1]; rfl
theorem e2 (M : Nat) (Z1 : Ut) (h1 : Ht1) (hZ1 : ∀ (aa0_0 : (List api_Letter)) (pa1_0 : api_Paradigm) (x34_1 : Int), Z1 (S1 aa0_0 pa1_0 x34_1) = h1 aa0_0 pa1_0 x34_1) (aa0_0 : (List api_Letter)) (pa1_0 : api_Paradigm) (x34_1 : Int) (x43_2 : Int) : zA M (zlq Qt2 [Z1]) Qt2 (S2 aa0_0 pa1_0 x34_1 x43_2) = l2 M h1 M aa0_0 pa1_0 x34_1 x43_2 :=
  Eq.trans (b := lA M (zlq Qt2 [Z1]) Qt2 M (S2 aa0_0 pa1_0 x34_1 x43_2)) (by kernel_rfl) (el2 M Z1 h1 hZ1 M aa0_0 pa1_0 x34_1 x43_2)
theorem el1 (M : Nat) (k : Nat) (aa0_0 : (List api_Letter)) (pa1_0 : api_Paradigm) (x34_1 : Int) : lA M (zlq Qt1 []) Qt1 k (S1 aa0_0 pa1_0 x34_1) = l1 M k aa0_0 pa1_0 x34_1 := by
  induction k generalizing aa0_0 pa1_0 x34_1 with
  | zero => kernel_rfl
  | succ k ih =>
    refine Eq.trans (b := lA M (zlq Qt1 [lA M (zlq Qt1 []) Qt1 k]) Qt1 (k + 1) (S1 aa0_0 pa1_0 x34_1)) (by kernel_rfl) ?_
    refine (seg_loop (Hok M) 0 Qt1 body plans (K M) _ (S1 aa0_0 pa1_0 x34_1) (around_zlq _ _ (by kernel_rfl)) (by kernel_rfl) (by kernel_rfl)).trans ?_
    refine (g1 M _ aa0_0 pa1_0 x34_1).trans ?_
    have x0 := (funext fun aa0_0 => funext fun pa1_0 => funext fun x34_1 => funext fun x43_2 => Eq.trans (b := zA M (zlq Qt2 [(lA M (zlq Qt1 []) Qt1 k)]) Qt2 (S2 aa0_0 pa1_0 x34_1 x43_2)) (by kernel_rfl) (e2 M (lA M (zlq Qt1 []) Qt1 k) (l1 M k) (fun aa0_0 pa1_0 x34_1 => ih aa0_0 pa1_0 x34_1) aa0_0 pa1_0 x34_1 x43_2) : (fun aa0_0 pa1_0 x34_1 x43_2 => zA M (zlq Qt1 [lA M (zlq Qt1 []) Qt1 k]) Qt2 (S2 aa0_0 pa1_0 x34_1 x43_2)) = l2 M (l1 M k) M)
    rw [x0]; rfl
theorem e1 (M : Nat) (aa0_0 : (List api_Letter)) (pa1_0 : api_Paradigm) (x34_1 : Int) : zA M (zlq Qt1 []) Qt1 (S1 aa0_0 pa1_0 x34_1) = l1 M M aa0_0 pa1_0 x34_1 :=
  Eq.trans (b := lA M (zlq Qt1 []) Qt1 M (S1 aa0_0 pa1_0 x34_1)) (by kernel_rfl) (el1 M M aa0_0 pa1_0 x34_1)
theorem run (M : Nat) (aa0_0 : (List api_Letter)) (pa1_0 : api_Paradigm) : runF (rs := rs) (C5 M) (X M) M body Tryd.f5.ntmps 67 Tryd.f5.results.toList plans ps ex (aa0_0, pa1_0) = paradigm_Valid M aa0_0 pa1_0 := by
  refine Eq.trans (b := runC (C5 M) (X M) M body plans (start (argHs ps (aa0_0, pa1_0)) Tryd.f5.ntmps 67) (K M)) (by kernel_rfl) ?_
  refine (zrun (Hok M) 0 body plans _ (K M) (fun _ => none) fun _ => rfl).symm.trans ?_
  refine (g M _ aa0_0 pa1_0).trans ?_
  have x0 := (funext fun aa0_0 => funext fun pa1_0 => funext fun x34_1 => Eq.trans (b := zA M (zlq Qt1 []) Qt1 (S1 aa0_0 pa1_0 x34_1)) (by kernel_rfl) (e1 M aa0_0 pa1_0 x34_1) : (fun aa0_0 pa1_0 x34_1 => zA M (fun _ => none) Qt1 (S1 aa0_0 pa1_0 x34_1)) = l1 M M)
  rw [x0]; rfl
noncomputable def sig (M : Nat) : Sig E := { ps := ps, rs := rs, ex := ex, fn := fun x => paradigm_Valid M x.1 x.2 }
theorem says (M : Nat) : callable Tryd.prog 5 = true ∧ ∀ x y, (sig M).fn x = some y → Says Tryd.prog 5 (sig M) x y := by
  refine ⟨by kernel_rfl, fun x y h => ?_⟩
  refine says_of_run (S := sig M) (C := C5 M) (X := X M) (M := M) (q := 67) (plans := plans) (COk_Tryd) (SigOk_C5 M) (ItOk_C5 M) (by kernel_rfl) (callOk_ext COk_Tryd (SigOk_C5 M) (ItOk_C5 M) (by kernel_rfl) inl_ok.ok (RSigOk_C5 M) (fun _ => callOk_none) M 1) (Tryd.func5) (body := body) (by kernel_rfl) (by kernel_rfl) ?_
  obtain ⟨aa0_0, pa1_0⟩ := x
  exact (run M aa0_0 pa1_0).trans h
end paradigm_Valid
end Go.Ai.Pav
end
/- Runes of strings: lists of them; when a string is valid UTF-8. -/
namespace Go.Ai
open Go
set_option maxRecDepth 100000

theorem enc1 (r : Nat) (c1 : r < 128) : enc (r : Int) = [UInt8.ofNat r] := by
  have v : Utf8.valid (r : Int) = true := by simp [Utf8.valid]; omega
  simp [enc, Utf8.encode, v, c1]
theorem enc2 (r : Nat) (c1 : ¬ r < 128) (c2 : r < 2048) : enc (r : Int) = [UInt8.ofNat (192 + r / 64), UInt8.ofNat (128 + r % 64)] := by
  have v : Utf8.valid (r : Int) = true := by simp [Utf8.valid]; omega
  simp [enc, Utf8.encode, v, c1, c2]
theorem enc3 (r : Nat) (c2 : ¬ r < 2048) (c3 : r < 65536) (hv : r < 55296 ∨ 57344 ≤ r) : enc (r : Int) = [UInt8.ofNat (224 + r / 4096), UInt8.ofNat (128 + r / 64 % 64), UInt8.ofNat (128 + r % 64)] := by
  have v : Utf8.valid (r : Int) = true := by simp [Utf8.valid]; omega
  have c1 : ¬ r < 128 := by omega
  simp [enc, Utf8.encode, v, c1, c2, c3]
theorem enc4 (r : Nat) (c3 : ¬ r < 65536) (c4 : r ≤ 1114111) : enc (r : Int) = [UInt8.ofNat (240 + r / 262144), UInt8.ofNat (128 + r / 4096 % 64), UInt8.ofNat (128 + r / 64 % 64), UInt8.ofNat (128 + r % 64)] := by
  have v : Utf8.valid (r : Int) = true := by simp [Utf8.valid]; omega
  have c1 : ¬ r < 128 := by omega
  have c2 : ¬ r < 2048 := by omega
  simp [enc, Utf8.encode, v, c1, c2, c3]
theorem encBad (r : Nat) (h : (55296 ≤ r ∧ r ≤ 57343) ∨ 1114111 < r) : enc (r : Int) = [239, 191, 189] := by
  have v : Utf8.valid (r : Int) = false := by simp [Utf8.valid]; omega
  simp [enc, Utf8.encode, v, Utf8.runeError]

theorem toB (n : Nat) (z : Int) (h : z = (n : Int)) : z.toNat.toUInt8 = UInt8.ofNat n := by subst h; simp

theorem enc_rune (r : Nat) : enc (r : Int) = Lib.encodeRune (r : Int) := by
  unfold Lib.encodeRune
  by_cases c1 : r < 128
  · rw [enc1 r c1, Lib.encodeRuneZ_one (by omega) (by omega)]
    simp only [List.map_cons, List.map_nil]
    rw [toB r _ (by omega)]
  by_cases c2 : r < 2048
  · rw [enc2 r c1 c2, Lib.encodeRuneZ_two (by omega) (by omega)]
    simp only [List.map_cons, List.map_nil]
    rw [toB (192 + r / 64) _ (by omega), toB (128 + r % 64) _ (by omega)]
  by_cases hb : (55296 ≤ r ∧ r ≤ 57343) ∨ 1114111 < r
  · rw [encBad r hb, Lib.encodeRuneZ_bad (by omega)]
    rfl
  by_cases c3 : r < 65536
  · rw [enc3 r c2 c3 (by omega), Lib.encodeRuneZ_three (by omega)]
    simp only [List.map_cons, List.map_nil]
    rw [toB (224 + r / 4096) _ (by omega), toB (128 + r / 64 % 64) _ (by omega), toB (128 + r % 64) _ (by omega)]
  · rw [enc4 r c3 (by omega), Lib.encodeRuneZ_four (by omega) (by omega)]
    simp only [List.map_cons, List.map_nil]
    rw [toB (240 + r / 262144) _ (by omega), toB (128 + r / 4096 % 64) _ (by omega), toB (128 + r / 64 % 64) _ (by omega), toB (128 + r % 64) _ (by omega)]

theorem dec_drop (s : List UInt8) (p : Nat) : dec s p = Lib.decodeL (s.drop p) := by
  unfold dec
  rw [Lib.decode_N, Lib.decodeL_N, Lib.getD_dropU, Lib.getD_dropU, Lib.getD_dropU, Lib.getD_dropU]
  simp

/-- The runes of a string, so many at most. -/
def rl : Nat → List UInt8 → List Nat
  | 0, _ => []
  | n + 1, l => match l with
    | [] => []
    | x :: r => (Lib.decodeL (x :: r)).1 :: rl n ((x :: r).drop (Lib.decodeL (x :: r)).2)
def runesL (l : List UInt8) : List Nat := rl l.length l
def encs (rs : List Nat) : List UInt8 := (rs.map fun r : Nat => enc (r : Int)).flatten

theorem rl_more : ∀ (n m : Nat) (l : List UInt8), l.length ≤ n → l.length ≤ m → rl n l = rl m l
  | 0, 0, _, _, _ => rfl
  | 0, m + 1, l, h, _ => by cases l with | nil => rfl | cons x l => simp at h
  | n + 1, 0, l, _, h => by cases l with | nil => rfl | cons x l => simp at h
  | n + 1, m + 1, l, h1, h2 => by
    cases l with
    | nil => rfl
    | cons x l =>
      have := Lib.decodeL_width (x :: l)
      simp only [rl]
      rw [rl_more n m _ (by simp only [List.length_drop, List.length_cons] at *; omega) (by simp only [List.length_drop, List.length_cons] at *; omega)]

theorem runesL_nil : runesL [] = [] := rfl
theorem runesL_cons {l : List UInt8} (h : l ≠ []) : runesL l = (Lib.decodeL l).1 :: runesL (l.drop (Lib.decodeL l).2) := by
  cases l with
  | nil => exact absurd rfl h
  | cons x l =>
    have := Lib.decodeL_width (x :: l)
    unfold runesL
    simp only [rl, List.length_cons]
    rw [rl_more l.length _ _ (by simp only [List.length_drop, List.length_cons]; omega) (Nat.le_refl _)]

theorem runesL_at {s : List UInt8} {p : Nat} (h : p < s.length) : runesL (s.drop p) = (dec s p).1 :: runesL (s.drop (p + (dec s p).2)) := by
  rw [runesL_cons (by simp; omega), dec_drop, List.drop_drop]
theorem runesL_end {s : List UInt8} {p : Nat} (h : ¬ p < s.length) : runesL (s.drop p) = [] := by
  rw [List.drop_of_length_le (by omega)]; rfl

theorem runesL_le : ∀ (n : Nat) (l : List UInt8), l.length ≤ n → (runesL l).length ≤ l.length
  | 0, l, h => by cases l with | nil => simp [runesL_nil] | cons x l => simp at h
  | n + 1, l, h => by
    by_cases hl : l = []
    · subst hl; simp [runesL_nil]
    · have hw := Lib.decodeL_width l
      have hp := List.length_pos_iff.2 hl
      rw [runesL_cons hl]
      have := runesL_le n (l.drop (Lib.decodeL l).2) (by simp; omega)
      simp only [List.length_drop, List.length_cons] at *
      omega
theorem runesL_length (l : List UInt8) : (runesL l).length ≤ l.length := runesL_le _ l (Nat.le_refl _)

theorem encs_nil : encs [] = [] := rfl
theorem encs_cons (r : Nat) (rs : List Nat) : encs (r :: rs) = enc (r : Int) ++ encs rs := rfl

theorem decode_bad {t : List UInt8} : Lib.decodeL (239 :: 191 :: 189 :: t) = (65533, 3) := by
  rw [Lib.decodeL_N]
  simp [Lib.decodeN]

theorem valid_encs : ∀ (n : Nat) (l : List UInt8), l.length ≤ n → Lib.validGoD n l = decide (encs (runesL l) = l)
  | 0, l, h => by cases l with | nil => simp [Lib.validGoD, runesL_nil, encs_nil] | cons x l => simp at h
  | n + 1, l, h => by
    by_cases hl : l = []
    · subst hl; simp [Lib.validGoD, runesL_nil, encs_nil]
    · have hw := Lib.decodeL_width l
      have hp := List.length_pos_iff.2 hl
      rw [Lib.validGoD, if_neg hl, runesL_cons hl, encs_cons]
      by_cases hb : (Lib.decodeL l).1 = 65533 ∧ (Lib.decodeL l).2 = 1
      · rw [if_pos hb]
        symm
        rw [decide_eq_false_iff_not]
        intro e
        have e3 : enc ((Lib.decodeL l).1 : Int) = [239, 191, 189] := by rw [hb.1]; rfl
        rw [e3] at e
        have := decode_bad (t := encs (runesL (l.drop (Lib.decodeL l).2)))
        rw [show (239 :: 191 :: 189 :: encs (runesL (l.drop (Lib.decodeL l).2)) : List UInt8) = l from e] at this
        rw [this] at hb
        exact absurd hb.2 (by decide)
      · rw [if_neg hb, valid_encs n _ (by simp only [List.length_drop]; omega), enc_rune, Lib.encode_decode l hl hb]
        have e := List.take_append_drop (Lib.decodeL l).2 l
        congr 1
        apply propext
        constructor
        · intro h'; rw [h']; exact e
        · intro h'
          exact List.append_cancel_left (h'.trans e.symm)
theorem valid_iff (l : List UInt8) : Lib.validD l = decide (encs (runesL l) = l) := valid_encs _ l (Nat.le_refl _)

end Go.Ai
/- Alphabets, words and paradigms: both answers are the same. -/
namespace Go.Ai.Pav
open Go Go.Ai
variable {M : Nat}

/-! ### The map of an alphabet -/
abbrev eqI : Int → Int → Bool := keyEq (E := E) (.int .i32)
theorem eqI_iff (a b : Int) : eqI a b = true ↔ a = b := by
  show (decide (a = b) && true) = true ↔ a = b
  simp

def addK : Nat → List api_Letter → List (Int × Int) → List (Int × Int)
  | _, [], m => m
  | i, x :: r, m => addK (i + 1) r (cond (mget eqI m x.fRune).isSome m (mput eqI m x.fRune i))

theorem mget_isSome (x : Int) : ∀ m : List (Int × Int), (mget eqI m x).isSome = m.any fun e => decide (e.1 = x)
  | [] => rfl
  | (k, v) :: r => by
    simp only [mget, List.any_cons]
    cases h : eqI x k with
    | true => have := (eqI_iff x k).1 h; subst this; simp
    | false =>
      have : ¬ k = x := fun e => by rw [e, (eqI_iff x x).2 rfl] at h; cases h
      simp only [mget_isSome x r, this, decide_false, Bool.false_or]

theorem mput_new (x y : Int) : ∀ m : List (Int × Int), (mget eqI m x).isSome = false → mput eqI m x y = m ++ [(x, y)]
  | [], _ => rfl
  | (k, v) :: r, h => by
    simp only [mget] at h
    simp only [mput]
    cases hk : eqI x k with
    | true => rw [hk] at h; cases h
    | false =>
      rw [hk] at h
      simp only [mput_new x y r h, List.cons_append]

theorem addK_isSome (x : Int) : ∀ (a : List api_Letter) (i : Nat) (m : List (Int × Int)), (mget eqI (addK i a m) x).isSome = ((mget eqI m x).isSome || a.any fun l => decide (l.fRune = x))
  | [], _, m => by simp [addK]
  | l :: a, i, m => by
    simp only [addK, addK_isSome x a, List.any_cons]
    cases h : (mget eqI m l.fRune).isSome with
    | true =>
      simp only [cond_true]
      by_cases e : l.fRune = x
      · subst e; simp [h]
      · simp [e]
    | false =>
      simp only [cond_false, mput_new _ _ _ h, mget_isSome, List.any_append, List.any_cons, List.any_nil, Bool.or_false, Bool.or_assoc]

theorem addK_le : ∀ (a : List api_Letter) (i : Nat) (m : List (Int × Int)), (addK i a m).length ≤ m.length + a.length
  | [], _, m => by simp [addK]
  | l :: a, i, m => by
    simp only [addK]
    cases h : (mget eqI m l.fRune).isSome with
    | true => have := addK_le a (i + 1) m; simp only [cond_true, List.length_cons] at *; omega
    | false =>
      have := addK_le a (i + 1) (m ++ [(l.fRune, (i : Int))])
      simp only [cond_false, mput_new _ _ _ h, List.length_cons, List.length_append, List.length_nil] at *; omega

def distL (pre : List Int) : List api_Letter → Bool
  | [] => true
  | l :: a => !(pre.any fun x => decide (x = l.fRune)) && distL (pre ++ [l.fRune]) a

theorem addK_len : ∀ (a : List api_Letter) (i : Nat) (m : List (Int × Int)), ((addK i a m).length = m.length + a.length) ↔ distL (m.map (·.1)) a = true
  | [], _, m => by simp [addK, distL]
  | l :: a, i, m => by
    have hk : ((m.map (·.1)).any fun x => decide (x = l.fRune)) = (mget eqI m l.fRune).isSome := by rw [mget_isSome, List.any_map]; rfl
    simp only [addK, distL, hk]
    cases h : (mget eqI m l.fRune).isSome with
    | true =>
      have := addK_le a (i + 1) m
      simp only [cond_true, Bool.not_true, Bool.false_and, Bool.false_eq_true, iff_false, List.length_cons]
      omega
    | false =>
      have := addK_len a (i + 1) (m ++ [(l.fRune, (i : Int))])
      simp only [List.map_append, List.map_cons, List.map_nil] at this
      simp only [cond_false, mput_new _ _ _ h, Bool.not_false, Bool.true_and, ← this, List.length_cons, List.length_append, List.length_nil]
      omega

/-! ### Alphabets -/
def goodB (r : Int) : Bool := decide (32 < r) && ((decide (r < 55296) || decide (57343 < r)) && decide (r ≤ 1114111))
theorem ref06_code_eq (r : Int) : pentaglotref06_code M r = some (goodB r) := by
  unfold pentaglotref06_code pentaglotref06_code.s goodB
  by_cases h1 : 32 < r <;> by_cases h2 : r < 55296 <;> by_cases h3 : 57343 < r <;> by_cases h4 : r ≤ 1114111 <;> simp [h1, h2, h3, h4] <;> omega
theorem validRune_eq (r : Int) (h : 32 < r) : unicode_utf8_ValidRune M r = some (goodB r) := by
  unfold unicode_utf8_ValidRune unicode_utf8_ValidRune.s goodB
  have h0 : 0 ≤ r := by omega
  by_cases h2 : r < 55296 <;> by_cases h3 : 57343 < r <;> by_cases h4 : r ≤ 1114111 <;> simp [h, h0, h2, h3, h4] <;> omega

def alphaB (a : List api_Letter) : Bool := decide (1 ≤ a.length) && (decide (a.length ≤ 64) && (a.all (fun l => goodB l.fRune) && distL [] a))

theorem ref06_Index_eq (hM : 1048576 < M) {a : List api_Letter} (hl : a.length ≤ 1048576) (r : Int) : pentaglotref06_Index M a r = some (fstIdx (fun x : api_Letter => decide (x.fRune = r)) a 0) :=
  overI (xs := a) (f := fun k i (_ : Unit) => pentaglotref06_Index.l1 M k a r i) (g := fun i t _ => some (fstIdx (fun x : api_Letter => decide (x.fRune = r)) t i)) (fun k _ => by
    simp only [pentaglotref06_Index.l1, pentaglotref06_Index.s1, ↓cneg (Int.lt_irrefl _), fstIdx]) (fun k i x t _ hi hx _ _ ih => by
    have ih := ih ()
    simp (disch := omega) only [pentaglotref06_Index.l1, pentaglotref06_Index.s1, ↓cpos, ↓cpos2, Int.toNat_natCast, hx, wsucc, ih, fstIdx]
    cases decide (x.fRune = r) <;> rfl) (by omega) ()

theorem distL_drop {a : List api_Letter} {i : Nat} {x : api_Letter} {t : List api_Letter} (h : a.drop i = x :: t) : distL ((a.take i).map (·.fRune)) (x :: t) = (!((a.take i).any fun y => decide (y.fRune = x.fRune)) && distL ((a.take (i + 1)).map (·.fRune)) t) := by
  have hi : i < a.length := by
    rcases Nat.lt_or_ge i a.length with h1 | h1
    · exact h1
    · rw [List.drop_of_length_le h1] at h; cases h
  have e : a.take (i + 1) = a.take i ++ [x] := by
    have h0 : (a.drop i)[0]? = some x := by rw [h]; rfl
    rw [List.getElem?_drop] at h0
    rw [List.take_add_one, show a[i]? = some x from h0]
    rfl
  simp only [distL, e, List.map_append, List.map_cons, List.map_nil, List.any_map]
  rfl

theorem ref06_Proper_eq (hM : 1048576 < M) {a : List api_Letter} (hl : a.length ≤ 64) : pentaglotref06_Proper M a = some (a.all (fun l => goodB l.fRune) && distL [] a) := by
  unfold pentaglotref06_Proper pentaglotref06_Proper.s
  rw [cneg (by omega)]
  have key := overI (xs := a) (f := fun k i (_ : Unit) => pentaglotref06_Proper.l1 M k a i) (g := fun i t _ => some (t.all (fun l => goodB l.fRune) && distL ((a.take i).map (·.fRune)) t)) (fun k _ => by
    simp only [pentaglotref06_Proper.l1, pentaglotref06_Proper.s1, ↓cneg (Int.lt_irrefl _), List.all_nil, distL, Bool.and_self]) (fun k i x t _ hi hx hd hd2 ih => by
    have ih := ih ()
    simp (disch := omega) only [pentaglotref06_Proper.l1, pentaglotref06_Proper.s1, ↓cpos, ↓cpos2, Int.toNat_natCast, hx, ref06_code_eq, ref06_Index_eq hM (show (a.take i).length ≤ 1048576 by rw [List.length_take]; omega), Option.bind_some, wsucc, ih, fstIdx_nonneg, List.all_cons, distL_drop hd]
    cases goodB x.fRune <;> cases (a.take i).any (fun y => decide (y.fRune = x.fRune)) <;> simp) (k := M) (by omega) ()
  simpa using key

theorem ref10_Alphabet_eq (hM : 1048576 < M) {a : List api_Letter} (hl : a.length ≤ 1048576) : pentaglotref10_Alphabet M a = some (alphaB a) := by
  unfold pentaglotref10_Alphabet pentaglotref10_Alphabet.s alphaB
  by_cases h1 : 1 ≤ a.length
  · by_cases h2 : a.length ≤ 64
    · rw [cpos (by omega), cpos (by omega), ref06_Proper_eq hM h2]
      simp [h1, h2]
    · rw [cpos (by omega), cneg (by omega)]
      simp [h2]
  · rw [cneg (by omega)]
    simp [h1]

theorem alphabet_Valid_eq (hM : 1048576 < M) {a : List api_Letter} (hl : a.length ≤ 1048576) : alphabet_Valid M a = some (alphaB a) := by
  unfold alphabet_Valid alphabet_Valid.s alphaB
  by_cases h1 : 1 ≤ a.length
  · by_cases h2 : a.length ≤ 64
    · rw [cneg (by omega), cneg (by omega)]
      have h3 : alphabet_Valid.j2 M a = some (distL [] a) := by
        unfold alphabet_Valid.j2 alphabet_Valid.s2
        have key := overI (xs := a) (f := fun k i (m : List (Int × Int)) => alphabet_Valid.l3 M k a i m) (g := fun i t m => some (decide (((addK i t m).length : Int) = (a.length : Int)))) (fun k m => by
          simp only [alphabet_Valid.l3, alphabet_Valid.s3, ↓cneg (Int.lt_irrefl _)]
          rfl) (fun k i x t m hi hx _ _ ih => by
          simp (disch := omega) only [alphabet_Valid.l3, alphabet_Valid.s3, ↓cpos, ↓cpos2, Int.toNat_natCast, hx, wsucc, ih, addK, cnot]
          rcases Bool.eq_false_or_eq_true (mget eqI m x.fRune).isSome with h | h <;> simp only [h, cond_true, cond_false]) (k := M) (by omega) []
        refine key.trans ?_
        have h := addK_len a 0 []
        simp only [List.length_nil, Nat.zero_add, List.map_nil] at h
        cases hd : distL [] a with
        | true => rw [hd] at h; simp [h.2 rfl]
        | false =>
          rw [hd] at h
          have : ¬ (addK 0 a []).length = a.length := fun e => by have := h.1 e; cases this
          simp
          omega
      have key := over (xs := a) (f := fun k i (_ : Unit) => alphabet_Valid.l1 M k a i) (g := fun t _ => some (t.all (fun l => goodB l.fRune) && distL [] a)) (fun k _ => by
        simp only [alphabet_Valid.l1, alphabet_Valid.s1, ↓cneg (Int.lt_irrefl _), h3, List.all_nil, Bool.true_and]) (fun k i x t _ hi hx ih => by
        have ih := ih ()
        simp (disch := omega) only [alphabet_Valid.l1, alphabet_Valid.s1, ↓cpos, ↓cpos2, Int.toNat_natCast, hx, wsucc, ih, List.all_cons]
        by_cases hg : x.fRune ≤ 32
        · rw [cpos hg]
          have : goodB x.fRune = false := by simp [goodB]; omega
          simp [this]
        · rw [cneg hg, validRune_eq _ (by omega), Option.bind_some, cnot]
          cases goodB x.fRune <;> simp) (k := M) (by omega) ()
      simpa [h1, h2] using key
    · rw [cneg (by omega), cpos (by omega)]
      simp [h2]
  · rw [cpos (by omega)]
    simp [h1]

/-! ### Words -/
def wordB (a : List api_Letter) (s : List UInt8) : Bool := Lib.validD s && ((runesL s).all (fun r => a.any fun l => decide (l.fRune = (r : Int))) && decide ((runesL s).length ≤ 40))

theorem isWord_eq (hM : 1048576 < M) {a : List api_Letter} (ha : a.length ≤ 1048576) {s : List UInt8} (hs : s.length ≤ 1048576) : alphabet_IsWord M a s = some (wordB a s) := by
  unfold alphabet_IsWord alphabet_IsWord.s
  have hv : unicode_utf8_ValidString M s = some (Lib.validD s) := by unfold unicode_utf8_ValidString; rw [cpos (by omega)]
  rw [hv, Option.bind_some, cnot]
  unfold wordB
  cases Lib.validD s with
  | false => rfl
  | true =>
    simp only [cond_true, Bool.true_and]
    have l2 : ∀ (m : List (Int × Int)) (q k n p : Nat), s.length - p ≤ q → q < k → n ≤ p → n ≤ 1048576 → alphabet_IsWord.l2 M k m s (n : Int) p = some ((runesL (s.drop p)).all (fun r => (mget eqI m (r : Int)).isSome) && decide (n + (runesL (s.drop p)).length ≤ 40)) := by
      intro m q
      induction q with
      | zero =>
        intro k n p h hk hn _
        obtain ⟨k, rfl⟩ := Nat.exists_eq_succ_of_ne_zero (by omega : k ≠ 0)
        have hp : ¬ p < s.length := by omega
        simp only [Nat.succ_eq_add_one, alphabet_IsWord.l2, alphabet_IsWord.s2]
        rw [cneg hp, runesL_end hp]
        simp
        omega
      | succ q ih =>
        intro k n p h hk hn hn2
        obtain ⟨k, rfl⟩ := Nat.exists_eq_succ_of_ne_zero (by omega : k ≠ 0)
        simp only [Nat.succ_eq_add_one, alphabet_IsWord.l2, alphabet_IsWord.s2]
        by_cases hp : p < s.length
        · have hd := dec_pos s p
          rw [cpos hp, runesL_at hp, List.all_cons]
          cases hm : (mget eqI m ((dec s p).1 : Int)).isSome with
          | false => simp
          | true =>
            rw [wsucc (by omega)]
            by_cases hn3 : n + 1 ≤ 1048576
            · rw [ih k (n + 1) _ (by omega) (by omega) (by omega) hn3]
              simp only [Bool.not_true, cond_false, Bool.true_and, List.length_cons]
              rw [show n + 1 + (runesL (s.drop (p + (dec s p).2))).length = n + ((runesL (s.drop (p + (dec s p).2))).length + 1) by omega]
            · omega
        · rw [cneg hp, runesL_end hp]
          simp
          omega
    have key := overI (xs := a) (f := fun k i (m : List (Int × Int)) => alphabet_IsWord.l1 M k a s i m) (g := fun i t m => some ((runesL s).all (fun r => (mget eqI (addK i t m) (r : Int)).isSome) && decide ((runesL s).length ≤ 40))) (fun k m => by
      have := l2 m s.length M 0 0 (by omega) (by omega) (by omega) (by omega)
      simp only [alphabet_IsWord.l1, alphabet_IsWord.s1, ↓cneg (Int.lt_irrefl _), addK]
      simpa using this) (fun k i x t m hi hx _ _ ih => by
      simp (disch := omega) only [alphabet_IsWord.l1, alphabet_IsWord.s1, ↓cpos, ↓cpos2, Int.toNat_natCast, hx, wsucc, ih, addK, cnot]
      cases (mget eqI m x.fRune).isSome <;> rfl) (k := M) (by omega) []
    refine key.trans ?_
    simp only [addK_isSome, mget, Option.isSome_none, Bool.false_or]

theorem ref10_Word_eq (hM : 1048576 < M) {a : List api_Letter} (ha : a.length ≤ 1048576) {s : List UInt8} (hs : s.length ≤ 1048576) : pentaglotref10_Word M a s = some (wordB a s) := by
  have key : ∀ (q k p : Nat) (out : List Int) (back : List UInt8), s.length - p ≤ q → q < k → out.length ≤ p → back.length ≤ 4 * p → out.length ≤ 1048576 → back.length ≤ 4194304 →
      ∃ r, pentaglotref06_Over.l1 M k a s out back p = some r ∧ r.2 = ((runesL (s.drop p)).all (fun r => a.any fun l => decide (l.fRune = (r : Int))) && decide (back ++ encs (runesL (s.drop p)) = s)) ∧ (r.2 = true → r.1.length = out.length + (runesL (s.drop p)).length) := by
    intro q
    induction q with
    | zero =>
      intro k p out back h hk ho hb _ _
      obtain ⟨k, rfl⟩ := Nat.exists_eq_succ_of_ne_zero (by omega : k ≠ 0)
      have hp : ¬ p < s.length := by omega
      simp only [Nat.succ_eq_add_one, pentaglotref06_Over.l1, pentaglotref06_Over.s1, pentaglotref06_Over.j2, pentaglotref06_Over.s2]
      rw [cneg hp, runesL_end hp]
      exact ⟨_, rfl, by simp [encs_nil], fun _ => by simp⟩
    | succ q ih =>
      intro k p out back h hk ho hb ho2 hb2
      obtain ⟨k, rfl⟩ := Nat.exists_eq_succ_of_ne_zero (by omega : k ≠ 0)
      simp only [Nat.succ_eq_add_one, pentaglotref06_Over.l1, pentaglotref06_Over.s1, pentaglotref06_Over.j2, pentaglotref06_Over.s2]
      by_cases hp : p < s.length
      · rw [cpos hp]
        have hd := dec_pos s p
        have he := enc_length ((dec s p).1 : Int)
        rw [ref06_Index_eq hM ha, Option.bind_some, runesL_at hp, List.all_cons]
        have hany := fstIdx_nonneg (fun x : api_Letter => decide (x.fRune = ((dec s p).1 : Int))) a 0
        by_cases h0 : fstIdx (fun x : api_Letter => decide (x.fRune = ((dec s p).1 : Int))) a 0 < 0
        · rw [cpos h0]
          have : (a.any fun x => decide (x.fRune = ((dec s p).1 : Int))) = false := by rw [← hany]; simp; omega
          exact ⟨_, rfl, by rw [this]; simp, fun h => by cases h⟩
        · rw [cneg h0, cpos (by simp only [len, len0]; omega), cpos (by omega)]
          have ht : (a.any fun x => decide (x.fRune = ((dec s p).1 : Int))) = true := by rw [← hany]; simp; omega
          obtain ⟨r, h1, h2, h3⟩ := ih k (p + (dec s p).2) (out ++ [fstIdx (fun x : api_Letter => decide (x.fRune = ((dec s p).1 : Int))) a 0]) (back ++ enc ((dec s p).1 : Int)) (by omega) (by omega) (by simp; omega) (by simp; omega) (by simp; omega) (by simp; omega)
          refine ⟨r, h1, ?_, fun h => ?_⟩
          · rw [h2, ht, encs_cons]
            simp
          · rw [h3 h]
            simp
            omega
      · rw [cneg hp, runesL_end hp]
        exact ⟨_, rfl, by simp [encs_nil], fun _ => by simp⟩
  obtain ⟨r, h1, h2, h3⟩ := key s.length M 0 [] [] (by omega) (by omega) (by simp) (by simp) (by simp) (by simp)
  have h1 : pentaglotref06_Over M a s = some r := h1
  unfold pentaglotref10_Word pentaglotref10_Word.s wordB
  rw [h1, Option.bind_some, valid_iff]
  simp only [List.drop_zero, List.nil_append, List.length_nil, Nat.zero_add] at h2 h3
  cases hr : r.2 with
  | false =>
    rw [hr] at h2
    simp only [cond_false]
    cases ha : (runesL s).all (fun r => a.any fun l => decide (l.fRune = (r : Int))) with
    | false => simp
    | true => rw [ha] at h2; simp only [Bool.true_and] at h2; rw [← h2]; simp
  | true =>
    rw [hr] at h2
    have h2 := h2.symm
    rw [Bool.and_eq_true] at h2
    rw [h2.1, h2.2, h3 hr]
    simp only [cond_true, Bool.true_and]
    congr 2
    apply propext
    omega

end Go.Ai.Pav
/- From what the form reads of the arguments to typed values, with their size. -/
namespace Go.Ai
set_option linter.unusedSectionVars false
set_option linter.unusedVariables false
set_option linter.unusedSimpArgs false
open Go.RowKit Go.ChangeShapes Go.WideShapes

section
variable {N : Type} [DecidableEq N] {E : Env N} {P : Program}

/-- So great is a value; is each integer within its kind? (of a struct: ats the two families say) -/
def szT (sz : ∀ n, E.Γ n → Nat) : (t : Ty N) → den E.Γ t → Nat
  | .int _, _ => 1
  | .bool, _ => 1
  | .str, s => s.length + 1
  | .sl t, xs => (xs.map (szT sz t)).sum + 1
  | .st n, x => sz n x
  | .ref n, x => sz n x + 1

def szTup (sz : ∀ n, E.Γ n → Nat) : (ts : List (Ty N)) → Tup E.Γ ts → Nat
  | [], _ => 0
  | [t], x => szT sz t x
  | t :: u :: ts, (x, y) => szT sz t x + szTup sz (u :: ts) y

def okT (ok : ∀ n, E.Γ n → Prop) : (t : Ty N) → den E.Γ t → Prop
  | .int k, n => (Lit.int k n).wf = true
  | .bool, _ => True
  | .str, _ => True
  | .sl t, xs => ∀ x ∈ xs, okT ok t x
  | .st n, x => ok n x
  | .ref n, x => ok n x

def okTup (ok : ∀ n, E.Γ n → Prop) : (ts : List (Ty N)) → Tup E.Γ ts → Prop
  | [], _ => True
  | [t], x => okT ok t x
  | t :: u :: ts, (x, y) => okT ok t x ∧ okTup ok (u :: ts) y

/-- Typed leaves, with their size. -/
inductive TL (sz : ∀ n, E.Γ n → Nat) (ok : ∀ n, E.Γ n → Prop) : List (Ty N) → List (TV E) → Nat → Prop
  | nil : TL sz ok [] [] 0
  | cons {t : Ty N} {ts : List (Ty N)} {ls : List (TV E)} {m : Nat} (x : den E.Γ t) (hx : okT ok t x) (h : TL sz ok ts ls m) : TL sz ok (t :: ts) (tvOf t x :: ls) (szT sz t x + m)

variable {sz : ∀ n, E.Γ n → Nat} {ok : ∀ n, E.Γ n → Prop}

theorem TL.append {ts us : List (Ty N)} {ls ks : List (TV E)} {m n : Nat} (h : TL sz ok ts ls m) (h' : TL sz ok us ks n) : TL sz ok (ts ++ us) (ls ++ ks) (m + n) := by
  induction h with
  | nil => simpa using h'
  | cons x hx h ih => have := TL.cons x hx ih; rw [← Nat.add_assoc] at this; exact this

theorem TL.len {ts : List (Ty N)} {ls : List (TV E)} {m : Nat} (h : TL sz ok ts ls m) : ls.length = ts.length := by
  induction h with
  | nil => rfl
  | cons x hx h ih => simp [ih]

theorem TL.tup {ts : List (Ty N)} {ls : List (TV E)} {m : Nat} (h : TL sz ok ts ls m) : ∃ y : Tup E.Γ ts, viewTup ts y = ls ∧ szTup sz ts y = m ∧ okTup ok ts y := by
  induction h with
  | nil => exact ⟨(), rfl, rfl, trivial⟩
  | @cons t ts ls m x hx h ih =>
    obtain ⟨y, h1, h2, h3⟩ := ih
    cases ts with
    | nil =>
      cases h
      exact ⟨x, rfl, rfl, hx⟩
    | cons u us =>
      exact ⟨(x, y), by show tvOf t x :: viewTup (u :: us) y = _; rw [h1], by show szT sz t x + szTup sz (u :: us) y = _; rw [h2], hx, h3⟩

theorem TReps.append {w : World} {F : Fz} : ∀ {ls ks : List (TV E)} {us vs : List Value}, TReps w F ls us → TReps w F ks vs → TReps w F (ls ++ ks) (us ++ vs)
  | [], _, [], _, _, h => h
  | _ :: _, _, _ :: _, _, h1, h => ⟨h1.1, TReps.append h1.2 h⟩
  | [], _, _ :: _, _, h1, _ => h1.elim
  | _ :: _, _, [], _, h1, _ => h1.elim

/-! ### Types that are read -/
def flatTI (ti : TI E) : Option (List (Ty N)) := match ti.ty with
  | some (.st n) => some (E.fl n)
  | some (.ref _) => none
  | some τ => some [τ]
  | none => none

def flatFs (C : Ctx E) : Nat → List (Nat × Nat × Nat) → Option (List (Ty N))
  | _, [] => some []
  | off, f :: fs => match C.ti f.2.1 with
    | some ti => match flatTI ti, flatFs C (off + f.2.2) fs with
      | some L, some R => match Nat.beq f.1 off && (Nat.beq f.2.2 ti.size && Nat.beq L.length f.2.2) with
        | true => some (L ++ R)
        | false => none
      | _, _ => none
    | none => none

def items (n sz e : Nat) : List (Nat × Nat × Nat) := (List.range n).map fun i => (i * sz, e, sz)

def openOne (C : Ctx E) (S : List Nat) (t : Nat) : Bool := match C.ti t with
  | some ti => match ti.d, ti.ty with
    | .int k, some (.int k') => decide (k' = k)
    | .bool, some .bool => true
    | .str, some .str => true
    | .slice e, some (.sl τ) => S.contains e && (match C.ti e with
      | some te => match te.ty with
        | some τ' => decide (τ' = τ)
        | none => false
      | none => false)
    | .struct fs, some (.st n) => fs.all (fun f => S.contains f.2.1) && (match flatFs C 0 fs with
      | some L => decide (L = E.fl n)
      | none => false)
    | .arr n e, some (.st m) => S.contains e && (match C.ti e with
      | some te => match flatFs C 0 (items n te.size e) with
        | some L => decide (L = E.fl m)
        | none => false
      | none => false)
    | _, _ => false
  | none => false

def openAll (C : Ctx E) (S : List Nat) : Bool := S.all (openOne C S)

/-- How the form's measure counts. -/
structure BulkOk {H : Type} (b : DataW H → Nat) (bs : List (DataW H) → Nat) : Prop where
  str : ∀ l, b (.lit (.string l)) = l.length + 1
  lit : ∀ l, 1 ≤ b (.lit l)
  nil : 1 ≤ b .nil
  slice : ∀ xs ys, bs xs + 1 ≤ b (.slice xs ys)
  agg : ∀ xs, bs xs + 1 ≤ b (.agg xs)
  cons : ∀ x xs, b x + bs xs ≤ bs (x :: xs)

theorem bulk_sum {H : Type} {b : DataW H → Nat} {bs : List (DataW H) → Nat} (hb : BulkOk b bs) : ∀ (xs : List (DataW H)), (xs.map b).sum ≤ bs xs
  | [] => Nat.zero_le _
  | x :: xs => by have := bulk_sum hb xs; have := hb.cons x xs; simp only [List.map_cons, List.sum_cons]; omega

variable {H : Type} {enc : TypeId × Value → H} {b : DataW H → Nat} {bs : List (DataW H) → Nat}

abbrev old (w : World) : Fz := fun k _ => k < w.heap.size

/-- What a reading of a type gives. -/
def Good (w : World) (C : Ctx E) (sz : ∀ n, E.Γ n → Nat) (ok : ∀ n, E.Γ n → Prop) (b : DataW H → Nat) (t : Nat) (cs : List Value) (d : DataW H) : Prop :=
  ∀ ti L, C.ti t = some ti → flatTI ti = some L → ∃ ls m, TL sz ok L ls m ∧ TReps w (old w) ls cs ∧ m + (match ti.agg with | true => 1 | false => 0) ≤ b d

theorem cells_old {w : World} {a : Addr} {v : Value} (h : w.cell? a = some v) : a.block < w.heap.size := by
  unfold World.cell? at h
  split at h
  · rename_i e
    exact (Array.getElem?_eq_some_iff.1 e).1
  · cases h

theorem getAll {α : Type} {p : Nat → α → Prop} : ∀ (n : Nat), (∀ i, i < n → ∃ x, p i x) → ∃ xs : List α, xs.length = n ∧ ∀ i x, xs[i]? = some x → p i x
  | 0, _ => ⟨[], rfl, fun i x h => by simp at h⟩
  | n + 1, h => by
    obtain ⟨xs, h1, h2⟩ := getAll n fun i hi => h i (by omega)
    obtain ⟨x, hx⟩ := h n (by omega)
    refine ⟨xs ++ [x], by simp [h1], fun i y hy => ?_⟩
    by_cases hi : i < n
    · rw [List.getElem?_append_left (by omega)] at hy
      exact h2 i y hy
    · have hl : i < (xs ++ [x]).length := (List.getElem?_eq_some_iff.1 hy).1
      rw [List.length_append, h1] at hl
      have : i = n := by simp at hl; omega
      subst this
      rw [List.getElem?_append_right (by omega), h1, Nat.sub_self] at hy
      simp only [List.getElem?_cons_zero, Option.some.injEq] at hy
      subst hy
      exact hx

theorem sum_le {α β : Type} {f : α → Nat} {g : β → Nat} : ∀ {xs : List α} {ys : List β}, xs.length = ys.length → (∀ (i : Nat) x y, xs[i]? = some x → ys[i]? = some y → f x ≤ g y) → (xs.map f).sum ≤ (ys.map g).sum
  | [], [], _, _ => Nat.le_refl _
  | x :: xs, y :: ys, hl, h => by
    have h0 := h 0 x y rfl rfl
    have := sum_le (f := f) (g := g) (xs := xs) (ys := ys) (by simpa using hl) fun i a c ha hc => h (i + 1) a c (by simpa using ha) (by simpa using hc)
    simp only [List.map_cons, List.sum_cons]
    omega
  | [], _ :: _, hl, _ => by simp at hl
  | _ :: _, [], hl, _ => by simp at hl

theorem fields_good (hb : BulkOk b bs) {w : World} {C : Ctx E} (cs : List Value) : ∀ (fs : List (Nat × Nat × Nat)) (off : Nat) (L : List (Ty N)) (ds : List (DataW H)), flatFs C off fs = some L → ds.length = fs.length →
    (∀ (m : Nat) f d, fs[m]? = some f → ds[m]? = some d → Good w C sz ok b f.2.1 ((cs.drop f.1).take f.2.2) d) →
    ∃ ls m, TL sz ok L ls m ∧ TReps w (old w) ls ((cs.drop off).take L.length) ∧ m ≤ bs ds
  | [], off, L, ds, hf, hl, _ => by
    simp only [flatFs, Option.some.injEq] at hf
    subst hf
    exact ⟨[], 0, .nil, trivial, Nat.zero_le _⟩
  | f :: fs, off, L, [], hf, hl, _ => by simp at hl
  | f :: fs, off, L, d :: ds, hf, hl, hg => by
    simp only [flatFs] at hf
    split at hf
    · rename_i ti hti
      split at hf
      · rename_i L1 R h1 h2
        split at hf
        · rename_i hc
          simp only [Bool.and_eq_true, Nat.beq_eq] at hc
          simp only [Option.some.injEq] at hf
          subst hf
          obtain ⟨hc1, hc2, hc3⟩ := hc
          obtain ⟨ls, m, g1, g2, g3⟩ := hg 0 f d rfl rfl ti L1 hti h1
          obtain ⟨ks, n, k1, k2, k3⟩ := fields_good hb cs fs (off + f.2.2) R ds h2 (by simpa using hl) fun i f' d' hf' hd' => hg (i + 1) f' d' (by simpa using hf') (by simpa using hd')
          have hcons := hb.cons d ds
          refine ⟨ls ++ ks, m + n, g1.append k1, ?_, by omega⟩
          rw [List.length_append, List.take_add, List.drop_drop, hc3, ← hc1]
          rw [← hc1] at k2
          exact g2.append k2
        · cases hf
      · cases hf
    · cases hf

theorem contains_mem {S : List Nat} {t : Nat} (h : S.contains t = true) : t ∈ S := by simpa using h

/-- **What the form reads is typed.** -/
theorem trod_good {C : Ctx E} (hC : COk P C) (hb : BulkOk b bs) {S : List Nat} (hS : openAll C S = true) (hsz : ∀ n x, sz n x ≤ szTup sz (E.fl n) (E.un n x) + 1) (hok : ∀ n x, okTup ok (E.fl n) (E.un n x) → ok n x) {w : World} {base : Nat} {sp : Nat → Bool} {held : Bool} :
    ∀ (fuel t : Nat) (cs : List Value) (x : DataW H × List MemPlace), t ∈ S → DataW.trod enc P w base sp held fuel t cs = some x → Good w C sz ok b t cs x.1 := by
  intro fuel
  induction fuel with
  | zero => intro t cs x _ h; simp [DataW.trod] at h
  | succ fuel ih =>
    intro t cs x hmem h ti L hti hL
    have ho : openOne C S t = true := List.all_eq_true.1 hS t hmem
    obtain ⟨i, d, hT, hd⟩ := tok_of hC hti
    unfold openOne at ho
    rw [hti] at ho
    simp only at ho
    split at ho
    · -- an integer
      rename_i k k' e1 e2
      have ho := of_decide_eq_true ho
      subst ho
      rw [e1] at hd
      have hu := under_int hd
      obtain ⟨n, rfl, rfl, hw⟩ := DataW.trod_int hu h
      unfold flatTI at hL
      rw [e2] at hL
      simp only [Option.some.injEq] at hL
      subst hL
      have hagg : ti.agg = false := by have := hT.agg; rw [hT.under.symm.trans hu |> Option.some.inj] at this; exact this.symm
      rw [hagg]
      exact ⟨_, _, .cons (t := .int k') n hw .nil, ⟨.int _ _, trivial⟩, by have := hb.lit (.int k' n); simp only [szT]; exact this⟩
    · rename_i e1 e2
      rw [e1] at hd
      have hu := under_bool hd
      obtain ⟨n, rfl, rfl⟩ := DataW.trod_bool hu h
      unfold flatTI at hL
      rw [e2] at hL
      simp only [Option.some.injEq] at hL
      subst hL
      have hagg : ti.agg = false := by have := hT.agg; rw [hT.under.symm.trans hu |> Option.some.inj] at this; exact this.symm
      rw [hagg]
      exact ⟨_, _, .cons (t := .bool) n trivial .nil, ⟨.bool _, trivial⟩, by have := hb.lit (.bool n); simp only [szT]; exact this⟩
    · rename_i e1 e2
      rw [e1] at hd
      have hu := under_str hd
      obtain ⟨s, rfl, rfl, _⟩ := DataW.trod_string hu h
      unfold flatTI at hL
      rw [e2] at hL
      simp only [Option.some.injEq] at hL
      subst hL
      have hagg : ti.agg = false := by have := hT.agg; rw [hT.under.symm.trans hu |> Option.some.inj] at this; exact this.symm
      rw [hagg]
      exact ⟨_, _, .cons (t := .str) s.data.toList trivial .nil, ⟨.str _, trivial⟩, by rw [hb.str]; simp only [szT]; omega⟩
    · -- a slice
      rename_i e τ e1 e2
      rw [e1] at hd
      have hu := under_slice hd
      simp only [Bool.and_eq_true] at ho
      obtain ⟨hmem', ho⟩ := ho
      have hagg : ti.agg = false := by have := hT.agg; rw [hT.under.symm.trans hu |> Option.some.inj] at this; exact this.symm
      rw [hagg]
      unfold flatTI at hL
      rw [e2] at hL
      simp only [Option.some.injEq] at hL
      subst hL
      split at ho
      · rename_i te hte
        split at ho
        · rename_i τ' hτ'
          have ho := of_decide_eq_true ho
          subst ho
          obtain ⟨ie, de, hTe, hde⟩ := tok_of hC hte
          have hcell : P.cellsOf e = τ'.size E := by
            unfold Program.cellsOf
            rw [hTe.info, (hTe.ty τ' hτ').1, ← hTe.size]
            rfl
          rcases DataW.trod_slice hu h with ⟨rfl, rfl⟩ | ⟨a, len, cap, elems, rest, n, hf, rfl, rfl, h1, h2, h3, h4, h5, _⟩
          · refine ⟨_, _, .cons (t := .sl τ') [] (fun x hx => by cases hx) .nil, ⟨Rep.sl τ' [] none 0 (fun _ _ => default) (Nat.le_refl _) (fun _ => rfl) (fun ad h => by cases h) (fun ad h => by cases h) (fun i x c l hx => by simp at hx), trivial⟩, ?_⟩
            have := hb.nil
            simpa [szT] using this
          · cases hf
            have hsp0 : 0 < len → a.spot = none := by
              intro hlen
              have hlt : 0 < elems.length := by omega
              have h6 := h5 0 hlen
              rw [List.getElem?_eq_getElem hlt, Option.bind_eq_some_iff] at h6
              obtain ⟨us, hus, _⟩ := h6
              obtain ⟨_, hul, huc⟩ := World.cells?_some hus
              have hpos : 0 < P.cellsOf e := by rw [hcell]; exact size_pos τ'
              have h8 := huc 0 hpos
              rw [List.getElem?_eq_getElem (by omega)] at h8
              have h9 := World.cell?_spot h8
              simpa [Addr.add] using h9
            -- each element
            have key : ∀ i, i < len → ∃ x : den E.Γ τ', okT ok τ' x ∧ (∃ d, elems[i]? = some d ∧ szT sz τ' x ≤ b d.1) ∧ ∃ vs : List Value, TReps w (old w) (leaves τ' x) vs ∧ ∀ (c : Nat) (u : Value), vs[c]? = some u → a.spot = none ∧ a.block < w.heap.size ∧ w.cell? ⟨a.block, a.off + (i * τ'.size E + c), none⟩ = some u := by
              intro i hi
              have hlt : i < elems.length := by omega
              have h6 := h5 i hi
              rw [List.getElem?_eq_getElem hlt] at h6
              rw [Option.bind_eq_some_iff] at h6
              obtain ⟨us, hus, htr⟩ := h6
              obtain ⟨_, hul, huc⟩ := World.cells?_some hus
              have hg := ih e us _ (contains_mem hmem') htr
              have hfl : ∃ L', flatTI te = some L' ∧ ∀ ls m, TL sz ok L' ls m → ∃ x : den E.Γ τ', okT ok τ' x ∧ leaves τ' x = ls ∧ szT sz τ' x ≤ m + (match te.agg with | true => 1 | false => 0) := by
                have hone := (hTe.ty τ' hτ').2
                cases τ' with
                | st n =>
                  refine ⟨E.fl n, by unfold flatTI; rw [hτ'], fun ls m hl => ?_⟩
                  obtain ⟨y, y1, y2, y3⟩ := hl.tup
                  have hag : te.agg = true := by cases hte' : te.agg <;> simp_all [Ty.one]
                  rw [hag]
                  refine ⟨E.pk n y, hok n _ (by rw [E.law]; exact y3), by simp only [leaves, E.law]; exact y1, ?_⟩
                  have := hsz n (E.pk n y)
                  rw [E.law, y2] at this
                  exact this
                | ref n =>
                  exfalso
                  have h7 : openOne C S e = true := List.all_eq_true.1 hS e (contains_mem hmem')
                  unfold openOne at h7
                  rw [hte] at h7
                  simp only [hτ'] at h7
                  split at h7 <;> simp_all
                | int k => exact ⟨[.int k], by unfold flatTI; rw [hτ'], fun ls m hl => by cases hl with | cons x hx h => cases h; exact ⟨x, hx, rfl, Nat.le_add_right _ _⟩⟩
                | bool => exact ⟨[.bool], by unfold flatTI; rw [hτ'], fun ls m hl => by cases hl with | cons x hx h => cases h; exact ⟨x, hx, rfl, Nat.le_add_right _ _⟩⟩
                | str => exact ⟨[.str], by unfold flatTI; rw [hτ'], fun ls m hl => by cases hl with | cons x hx h => cases h; exact ⟨x, hx, rfl, Nat.le_add_right _ _⟩⟩
                | sl t => exact ⟨[.sl t], by unfold flatTI; rw [hτ'], fun ls m hl => by cases hl with | cons x hx h => cases h; exact ⟨x, hx, rfl, Nat.le_add_right _ _⟩⟩
              obtain ⟨L', hL', hfl⟩ := hfl
              obtain ⟨ls, m, g1, g2, g3⟩ := hg te L' hte hL'
              obtain ⟨x, x1, x2, x3⟩ := hfl ls m g1
              refine ⟨x, x1, ⟨elems[i], List.getElem?_eq_getElem hlt, by omega⟩, us, by rw [x2]; exact g2, fun c u hu' => ?_⟩
              have hc : c < P.cellsOf e := by rw [← hul]; exact (List.getElem?_eq_some_iff.1 hu').1
              have h8 := huc c hc
              rw [hu'] at h8
              have hbl := cells_old h8
              have hsp := hsp0 (by omega)
              obtain ⟨blk, off, spot⟩ := a
              simp only at hsp
              subst hsp
              rw [addr_add, addr_add] at h8
              rw [addr_add, addr_add] at hbl
              refine ⟨rfl, hbl, ?_⟩
              rw [hcell] at h8
              simp only
              rw [← Nat.add_assoc]
              exact h8
            obtain ⟨xs, hxl, hxs⟩ := getAll len key
            subst hxl
            have hch : ∀ i, ∃ vs : List Value, ∀ x, xs[i]? = some x → TReps w (old w) (leaves τ' x) vs ∧ ∀ (c : Nat) (u : Value), vs[c]? = some u → a.spot = none ∧ a.block < w.heap.size ∧ w.cell? ⟨a.block, a.off + (i * τ'.size E + c), none⟩ = some u := by
              intro i
              cases hx : xs[i]? with
              | none => exact ⟨[], fun x h => by cases h⟩
              | some x =>
                obtain ⟨_, _, vs, v1, v2⟩ := hxs i x hx
                exact ⟨vs, fun y hy => by cases hy; exact ⟨v1, v2⟩⟩
            have hget : ∀ (i : Nat) (x : den E.Γ τ') (c : Nat) (l : TV E), xs[i]? = some x → (leaves (E := E) τ' x)[c]? = some l → ∃ u, (Classical.choose (hch i))[c]? = some u ∧ Rep w (old w) l u := by
              intro i x c l hx hl
              have := (Classical.choose_spec (hch i) x hx).1
              exact this.get c l hl
            have hsum : (xs.map (szT sz τ')).sum ≤ ((elems.map (·.1)).map b).sum := by
              rw [List.map_map]
              refine sum_le (by rw [h4]) fun i x y hx hy => ?_
              obtain ⟨_, ⟨d, hd1, hd2⟩, _⟩ := hxs i x hx
              rw [hy] at hd1
              cases hd1
              exact hd2
            refine ⟨_, _, .cons (t := .sl τ') xs (fun x hx => ?_) .nil, ⟨Rep.sl τ' xs (some a) cap (fun i c => (Classical.choose (hch i)).getD c .nilFunc) h2 (fun h => by cases h) (fun ad had hne => ?_) (fun ad had i x c l hx hl => ?_) (fun i x c l hx hl => ?_), trivial⟩, ?_⟩
            · obtain ⟨i, hi⟩ := List.mem_iff_getElem?.1 hx
              exact (hxs i x hi).1
            · cases had
              cases hxs0 : xs with
              | nil => exact absurd hxs0 hne
              | cons x r =>
                have hx0 : xs[0]? = some x := by rw [hxs0]; rfl
                have hpos := size_pos (E := E) τ'
                have hl0 : 0 < (leaves (E := E) τ' x).length := by rw [size_leaves]; exact hpos
                obtain ⟨u, hu1, _⟩ := hget 0 x 0 _ hx0 (List.getElem?_eq_getElem hl0)
                exact ((Classical.choose_spec (hch 0) x hx0).2 0 u hu1).1
            · cases had
              obtain ⟨u, hu1, _⟩ := hget i x c l hx hl
              obtain ⟨_, q2, q3⟩ := (Classical.choose_spec (hch i) x hx).2 c u hu1
              refine ⟨q2, ?_⟩
              rw [q3, List.getD_eq_getElem?_getD, hu1]
              rfl
            · obtain ⟨u, hu1, hu2⟩ := hget i x c l hx hl
              rw [List.getD_eq_getElem?_getD, hu1]
              exact hu2
            · have s1 := bulk_sum hb (elems.map (·.1))
              have s2 := hb.slice (elems.map (·.1)) (rest.map (·.1))
              simp only [szT]
              omega
        · cases ho
      · cases ho
    · -- a struct
      rename_i fs n e1 e2
      rw [e1] at hd
      obtain ⟨fields, hu, hlen, hfs⟩ := under_struct hd
      simp only [Bool.and_eq_true] at ho
      obtain ⟨hall, ho⟩ := ho
      split at ho
      · rename_i L0 hL0
        have ho := of_decide_eq_true ho
        unfold flatTI at hL
        rw [e2] at hL
        simp only [Option.some.injEq] at hL
        subst hL
        rw [ho] at hL0
        obtain ⟨xs, m, hf, rfl, hcl, hxl, hx⟩ := DataW.trod_struct hu h
        cases hf
        have hagg : ti.agg = true := by have := hT.agg; rw [hT.under.symm.trans hu |> Option.some.inj] at this; exact this.symm
        rw [hagg]
        obtain ⟨ls, k, g1, g2, g3⟩ := fields_good (sz := sz) (ok := ok) hb (w := w) cs fs 0 (E.fl n) (xs.map (·.1)) hL0 (by rw [List.length_map, hxl, ← hlen]; simp) (fun i f dd hfi hdi => by
          obtain ⟨ff, inf, f1, f2, f3, f4, f5⟩ := hfs i f.1 f.2.1 f.2.2 hfi
          rw [List.getElem?_map, Option.map_eq_some_iff] at hdi
          obtain ⟨y, hy, rfl⟩ := hdi
          have hxx := hx i ff f1
          rw [hy, f2, f3] at hxx
          have hce : P.cellsOf f.2.1 = f.2.2 := by unfold Program.cellsOf; rw [f4, ← f5]; rfl
          rw [hce] at hxx
          refine ih f.2.1 _ y ?_ hxx
          exact contains_mem (List.all_eq_true.1 hall f (List.mem_of_getElem? hfi)))
        refine ⟨ls, k, g1, ?_, ?_⟩
        · have hll : (E.fl n).length = cs.length := by
            rw [hcl]
            have h9 := (hT.ty _ e2).1
            unfold Program.cellsOf
            rw [hT.info]
            show (Ty.size E (.st n)) = i.size
            rw [h9, hT.size]
          rw [hll] at g2
          simpa using g2
        · have := hb.agg (xs.map (·.1))
          simp only
          omega
      · cases ho
    · -- an array
      rename_i n e m e1 e2
      rw [e1] at hd
      have hu := under_arr hd
      simp only [Bool.and_eq_true] at ho
      obtain ⟨hmem', ho⟩ := ho
      split at ho
      · rename_i te hte
        split at ho
        · rename_i L0 hL0
          have ho := of_decide_eq_true ho
          unfold flatTI at hL
          rw [e2] at hL
          simp only [Option.some.injEq] at hL
          subst hL
          rw [ho] at hL0
          obtain ⟨xs, q, hf, rfl, hcl, hxl, hx⟩ := DataW.trod_array hu h
          cases hf
          have hagg : ti.agg = true := by have := hT.agg; rw [hT.under.symm.trans hu |> Option.some.inj] at this; exact this.symm
          rw [hagg]
          obtain ⟨ie, de, hTe, hde⟩ := tok_of hC hte
          have hce : P.cellsOf e = te.size := by unfold Program.cellsOf; rw [hTe.info, ← hTe.size]; rfl
          obtain ⟨ls, k, g1, g2, g3⟩ := fields_good (sz := sz) (ok := ok) hb (w := w) cs (items n te.size e) 0 (E.fl m) (xs.map (·.1)) hL0 (by simp [items, hxl]) (fun i f dd hfi hdi => by
            unfold items at hfi
            rw [List.getElem?_map, Option.map_eq_some_iff] at hfi
            obtain ⟨i', hi', rfl⟩ := hfi
            have hin : i < n := by have := (List.getElem?_eq_some_iff.1 hi').1; simpa using this
            rw [List.getElem?_range hin] at hi'
            cases hi'
            rw [List.getElem?_map, Option.map_eq_some_iff] at hdi
            obtain ⟨y, hy, rfl⟩ := hdi
            have hxx := hx i hin
            rw [hy, hce] at hxx
            exact ih e _ y (contains_mem hmem') hxx)
          refine ⟨ls, k, g1, ?_, ?_⟩
          · have hll : (E.fl m).length = cs.length := by
              rw [hcl]
              have h9 := (hT.ty _ e2).1
              unfold Program.cellsOf
              rw [hT.info]
              show (Ty.size E (.st m)) = i.size
              rw [h9, hT.size]
            rw [hll] at g2
            simpa using g2
          · have := hb.agg (xs.map (·.1))
            simp only
            omega
        · cases ho
      · cases ho
    · cases ho

end
end Go.Ai
/- The closing of a law: out of its contract and of what is plainly said of it. -/
namespace Go.Ai
set_option linter.unusedSectionVars false
set_option linter.unusedVariables false
set_option linter.unusedSimpArgs false
open Go.RowKit Go.ChangeShapes Go.WideShapes

section
variable {N : Type} [DecidableEq N] {E : Env N} {P : Program}

def argTys (C : Ctx E) (S : List Nat) : List Nat → Option (List (Ty N))
  | [] => some []
  | t :: ts => match C.ti t, argTys C S ts with
    | some ti, some r => match S.contains t, ti.ty with
      | true, some τ => some (τ :: r)
      | _, _ => none
    | _, _ => none

variable {sz : ∀ n, E.Γ n → Nat} {ok : ∀ n, E.Γ n → Prop} {H : Type} {enc : TypeId × Value → H} {b : DataW H → Nat} {bs : List (DataW H) → Nat}

theorem argHs_cons {t : Ty N} {ts : List (Ty N)} (x : den E.Γ t) (y : Tup E.Γ ts) : ∃ z : Tup E.Γ (t :: ts), argHs (E := E) (t :: ts) z = valH t x :: argHs ts y ∧ szTup sz (t :: ts) z = szT sz t x + szTup sz ts y ∧ (okT ok t x → okTup ok ts y → okTup ok (t :: ts) z) := by
  cases ts with
  | nil => exact ⟨x, rfl, rfl, fun h _ => h⟩
  | cons u us => exact ⟨(x, y), rfl, rfl, fun h h' => ⟨h, h'⟩⟩

theorem lrep_tvs {w : World} {j : Sites} {tk : Toks} {F : Fz} : ∀ {ls : List (TV E)} {vs : List Value}, TReps w F ls vs → LRep w j tk F (ls.map Cell.tv) vs
  | [], [], _ => trivial
  | _ :: _, _ :: _, h => ⟨h.1, lrep_tvs h.2⟩
  | [], _ :: _, h => h.elim
  | _ :: _, [], h => h.elim

theorem arg_good {C : Ctx E} (hC : COk P C) {S : List Nat} (hS : openAll C S = true) (hsz : ∀ n x, sz n x ≤ szTup sz (E.fl n) (E.un n x) + 1) (hok : ∀ n x, okTup ok (E.fl n) (E.un n x) → ok n x) {w : World} {t : Nat} {ti : TI E} {τ : Ty N} {v : Value} {d : DataW H} {r : Reach} {base : Nat}
    (hti : C.ti t = some ti) (hτ : ti.ty = some τ) (hm : t ∈ S) (hval : Value.okWide P w r base t v) (hg : Good w C sz ok b t v.cells.toList d) : ∃ x : den E.Γ τ, HRep w noSite noTok (old w) (valH (E := E) τ x) v ∧ szT sz τ x ≤ b d ∧ okT ok τ x := by
  obtain ⟨i, de, hT, hd⟩ := tok_of hC hti
  have hone := (hT.ty τ hτ).2
  have ho : openOne C S t = true := List.all_eq_true.1 hS t hm
  have aggr : ∀ n, τ = .st n → ∃ x : den E.Γ τ, HRep w noSite noTok (old w) (valH (E := E) τ x) v ∧ szT sz τ x ≤ b d ∧ okT ok τ x := by
    rintro n rfl
    have hagg : ti.agg = true := by cases hti' : ti.agg <;> simp_all [Ty.one]
    have hu : ∃ cs, v = .agg cs := by
      unfold Value.okWide at hval
      rw [hT.under] at hval
      have := hT.agg
      rw [hagg] at this
      cases de <;> simp [aggD] at this
      · obtain ⟨cs, h1, _⟩ := hval
        exact ⟨cs, h1⟩
      · obtain ⟨cs, h1, _⟩ := hval
        exact ⟨cs, h1⟩
    obtain ⟨cs, rfl⟩ := hu
    obtain ⟨ls, m, g1, g2, g3⟩ := hg ti (E.fl n) hti (by unfold flatTI; rw [hτ])
    obtain ⟨y, y1, y2, y3⟩ := g1.tup
    rw [hagg] at g3
    refine ⟨E.pk n y, ?_, ?_, hok n _ (by rw [E.law]; exact y3)⟩
    · unfold valH
      show HRep w noSite noTok (old w) (.agg ((leaves (E := E) (.st n) (E.pk n y)).map .tv)) _
      refine ⟨cs.toList, by simp, lrep_tvs ?_⟩
      simp only [leaves, E.law]
      rw [y1]
      exact g2
    · have := hsz n (E.pk n y)
      rw [E.law, y2] at this
      simp only at g3
      exact Nat.le_trans this g3
  unfold openOne at ho
  rw [hti] at ho
  simp only [hτ] at ho
  have single : flatTI ti = some [τ] → τ.one = true → (∀ cs, v ≠ .agg cs) → ∃ x : den E.Γ τ, HRep w noSite noTok (old w) (valH (E := E) τ x) v ∧ szT sz τ x ≤ b d ∧ okT ok τ x := by
    intro hfl h1 hna
    obtain ⟨ls, m, g1, g2, g3⟩ := hg ti [τ] hti hfl
    cases g1 with
    | cons x hx h =>
      cases h
      have hc : v.cells.toList = [v] := by
        cases v <;> first | rfl | exact absurd rfl (hna _)
      rw [hc] at g2
      refine ⟨x, ?_, by omega, hx⟩
      unfold valH
      rw [h1]
      exact g2.1
  split at ho
  · rename_i k k' e1 e2
    cases e2
    rw [e1] at hd
    obtain ⟨n, rfl⟩ := okWide_int (under_int hd) hval
    exact single (by unfold flatTI; rw [hτ]) rfl (fun cs h => by cases h)
  · rename_i e1 e2
    cases e2
    rw [e1] at hd
    obtain ⟨n, rfl⟩ := okWide_bool (under_bool hd) hval
    exact single (by unfold flatTI; rw [hτ]) rfl (fun cs h => by cases h)
  · rename_i e1 e2
    cases e2
    rw [e1] at hd
    obtain ⟨n, rfl⟩ := okWide_string (under_str hd) hval
    exact single (by unfold flatTI; rw [hτ]) rfl (fun cs h => by cases h)
  · rename_i e1 e2
    cases e2
    rw [e1] at hd
    obtain ⟨a, len, cap, rfl⟩ := okWide_slice (under_slice hd) hval
    exact single (by unfold flatTI; rw [hτ]) rfl (fun cs h => by cases h)
  · rename_i fs n e1 e2
    cases e2
    exact aggr n rfl
  · rename_i q e n e1 e2
    cases e2
    exact aggr n rfl
  · cases ho

theorem args_good {C : Ctx E} (hC : COk P C) {S : List Nat} (hS : openAll C S = true) (hsz : ∀ n x, sz n x ≤ szTup sz (E.fl n) (E.un n x) + 1) (hok : ∀ n x, okTup ok (E.fl n) (E.un n x) → ok n x) (hb : BulkOk b bs) {w : World} {base0 : Nat} {sp : Nat → Bool} {held : Bool} {r : Reach} {base : Nat} :
    ∀ (ts : List Nat) (ps : List (Ty N)) (args : List Value) (ds : List (DataW H)) (q : List MemPlace), argTys C S ts = some ps → DataW.TrodAll enc P w base0 sp held ts args ds q → (∀ (j : Nat) t v, ts[j]? = some t → args[j]? = some v → Value.okWide P w r base t v) →
      ∃ x : Tup E.Γ ps, HReps w noSite noTok (old w) (argHs (E := E) ps x) args ∧ szTup sz ps x ≤ bs ds ∧ okTup ok ps x
  | [], ps, args, ds, q, hp, h, _ => by
    obtain ⟨rfl, rfl, rfl⟩ := trodAll_nil h
    simp only [argTys, Option.some.injEq] at hp
    subst hp
    exact ⟨(), trivial, Nat.zero_le _, trivial⟩
  | t :: ts, ps, args, ds, q, hp, h, hv => by
    obtain ⟨v, vs, d, ds', p1, p2, rfl, rfl, rfl, h1, h2⟩ := trodAll_cons h
    simp only [argTys] at hp
    split at hp
    · rename_i ti rr hti hr
      split at hp
      · rename_i τ hm hτ
        simp only [Option.some.injEq] at hp
        subst hp
        obtain ⟨y, y1, y2, y3⟩ := args_good hC hS hsz hok hb ts rr vs ds' p2 hr h2 fun j t' v' ht' hv' => hv (j + 1) t' v' (by simpa using ht') (by simpa using hv')
        obtain ⟨fuel, hf⟩ := h1
        have hmem := contains_mem hm
        obtain ⟨x, x1, x2, x3⟩ := arg_good hC hS hsz hok hti hτ hmem (hv 0 t v rfl rfl) (trod_good hC hb hS hsz hok fuel t v.cells.toList _ hmem hf)
        obtain ⟨z, z1, z2, z3⟩ := argHs_cons (sz := sz) (ok := ok) (E := E) x y
        have hc := hb.cons d ds'
        simp only at x2
        refine ⟨z, ?_, by omega, z3 x3 y3⟩
        rw [z1]
        exact ⟨x1, y1⟩
      · cases hp
    · cases hp

theorem trodAll_stays (hl : laidOutB P = true) {W W' : World} (hb : Below W.heap.size W W') {sp' : Nat → Bool} : ∀ (ts : List Nat) (args : List Value) (ds : List (DataW H)) (ps : List MemPlace), (ts.all fun t => P.readableRec t && decide (t < P.types.size)) = true →
    DataW.TrodAll enc P W 0 (fun _ => true) true ts args ds ps → (∀ p ∈ ps, p.block < W.heap.size) → (∀ p ∈ ps, sp' p.block = true) → DataW.TrodAll enc P W' 0 sp' true ts args ds ps
  | [], args, ds, ps, _, h, _, _ => by
    obtain ⟨rfl, rfl, rfl⟩ := trodAll_nil h
    rfl
  | t :: ts, args, ds, ps, hr, h, hlt, hs => by
    obtain ⟨v, vs, d, ds', p1, p2, rfl, rfl, rfl, h1, h2⟩ := trodAll_cons h
    simp only [List.all_cons, Bool.and_eq_true, decide_eq_true_eq] at hr
    exact ⟨p1, p2, WideElems.Trod_stays hl hr.1.1 hr.1.2 h1 (fun p hp => hb.same (hlt p (List.mem_append.2 (.inl hp)))) (fun p hp => hs p (List.mem_append.2 (.inl hp))),
      trodAll_stays hl hb ts vs ds' p2 (by simpa using hr.2) h2 (fun p hp => hlt p (List.mem_append.2 (.inr hp))) (fun p hp => hs p (List.mem_append.2 (.inr hp))), rfl⟩

/-- **A law's row, out of its contract and its plain form.** -/
theorem law_calls {C : Ctx E} (hC : COk P C) {S : List Nat} (hS : openAll C S = true) (hsz : ∀ n x, sz n x ≤ szTup sz (E.fl n) (E.un n x) + 1) (hok : ∀ n x, okTup ok (E.fl n) (E.un n x) → ok n x) (hl : laidOutB P = true)
    {f : FuncId} {fn : Func} {ps : List (Ty N)} (hps : argTys C S fn.params.toList = some ps) (hread : (fn.params.toList.all fun t => P.readableRec t && decide (t < P.types.size)) = true) {tb : Nat} (hres : fn.resultTypes = #[tb]) (htb : P.underlying tb = some .bool)
    {F : Tup E.Γ ps → Option Bool} (hs : ∀ x y, F x = some y → Says P f ({ ps := ps, rs := [.bool], ex := [none], fn := F } : Sig E) x y) {bound : Nat} (hlaw : ∀ x, okTup ok ps x → szTup sz ps x ≤ bound → F x = some true)
    {s : ChangeSpec} (hvars : s.vars = []) (hfn : ∀ ds : List (DataW H), ds.length = fn.params.toList.length → s.fn H ds = { results := [.lit (.bool true)], args := ds })
    {W : World} {base : Nat} {args : Array Value} {ds gs : List (DataW H)} {before : List MemPlace} (hval : ∀ (j : Nat) t v, fn.params[j]? = some t → args[j]? = some v → Value.okWide P W .any base t v)
    (hW : DataW.Whole enc P fn.params.toList s.vars false W args.toList ds gs before) (hb : BulkOk b bs) (hbound : bs (ds ++ gs) ≤ bound) (hTab : E.tab W (old W) := by exact True.intro) :
    Calls P f args W fun e W' => ∃ v, e = .returned v ∧ s.post enc P fn false true false false W args v W' := by
  have hW' := hW
  obtain ⟨p, q, hA, hV, rfl, hfz, hnd⟩ := hW
  rw [hvars] at hV
  obtain ⟨rfl, rfl⟩ := trodVars_none hV
  rw [List.append_nil] at hbound
  obtain ⟨x, h1, h2, h3⟩ := args_good hC hS hsz hok hb (r := .any) (base := base) fn.params.toList ps args.toList ds p hps hA (fun j t v ht hv => hval j t v (by simpa using ht) (by simpa using hv))
  have hx := hlaw x h3 (Nat.le_trans h2 hbound)
  have hc := hs x true hx W (old W) args.toList 0 (fun _ _ h => h) hTab h1
  rw [Array.toArray_toList] at hc
  have hdl : ds.length = fn.params.toList.length := by
    have key : ∀ (ts : List Nat) (vs : List Value) (ds : List (DataW H)) (p : List MemPlace), DataW.TrodAll enc P W 0 (fun _ => true) true ts vs ds p → ds.length = ts.length := by
      intro ts
      induction ts with
      | nil => intro vs ds p h; obtain ⟨_, rfl, _⟩ := trodAll_nil h; rfl
      | cons t ts ih => intro vs ds p h; obtain ⟨_, _, _, _, _, _, rfl, rfl, rfl, _, h2⟩ := trodAll_cons h; simp [ih _ _ _ h2]
    exact key _ _ _ _ hA
  refine hc.mono fun e W' h => ?_
  obtain ⟨v, tk, F', rfl, hbel, _, _, _, hr, _⟩ := h
  have hv : v = .bool true := by
    have hr' : Rep W' F' (.bool true : TV E) v := hr
    cases hr'
    rfl
  subst hv
  refine ⟨_, rfl, ds, [], p ++ [], [], p, [], hW', ?_, ?_, ?_, ?_, fun h => by cases h⟩
  · rw [hres, List.append_nil, hfn ds hdl]
    refine ⟨[], [], ?_, rfl, rfl⟩
    exact ⟨1, by simp [DataW.trod, Value.cells, htb]⟩
  · rw [List.append_nil, hfn ds hdl]
    exact trodAll_stays hl hbel _ _ _ _ hread hA (fun y hy => hW'.lt y (by simpa using hy)) (fun y hy => by simpa using hW'.lt y (by simpa using hy))
  · rw [hvars, List.append_nil, hfn ds hdl]
    rfl
  · exact hbel.frame _


/-! ### Sizes and ranges, so many structs deep -/
def szD (E : Env N) : Nat → ∀ n, E.Γ n → Nat
  | 0 => fun _ _ => 0
  | k + 1 => fun n x => szTup (szD E k) (E.fl n) (E.un n x) + 1

def okD (E : Env N) : Nat → ∀ n, E.Γ n → Prop
  | 0 => fun _ _ => True
  | k + 1 => fun n x => okTup (okD E k) (E.fl n) (E.un n x)

theorem szT_mono {s s' : ∀ n, E.Γ n → Nat} (h : ∀ n x, s n x ≤ s' n x) : ∀ (t : Ty N) (x : den E.Γ t), szT s t x ≤ szT s' t x
  | .int _, _ => Nat.le_refl _
  | .bool, _ => Nat.le_refl _
  | .str, _ => Nat.le_refl _
  | .sl t, xs => by
    have : (xs.map (szT s t)).sum ≤ (xs.map (szT s' t)).sum := sum_le rfl fun i x y hx hy => by rw [hx] at hy; cases hy; exact szT_mono h t x
    simp only [szT]
    omega
  | .st n, x => h n x
  | .ref n, x => Nat.add_le_add_right (h n x) 1

theorem szTup_mono {s s' : ∀ n, E.Γ n → Nat} (h : ∀ n x, s n x ≤ s' n x) : ∀ (ts : List (Ty N)) (x : Tup E.Γ ts), szTup s ts x ≤ szTup s' ts x
  | [], _ => Nat.le_refl _
  | [t], x => szT_mono h t x
  | t :: u :: ts, (x, y) => Nat.add_le_add (szT_mono h t x) (szTup_mono h (u :: ts) y)

theorem okT_mono {s s' : ∀ n, E.Γ n → Prop} (h : ∀ n x, s n x → s' n x) : ∀ (t : Ty N) (x : den E.Γ t), okT s t x → okT s' t x
  | .int _, _, hx => hx
  | .bool, _, hx => hx
  | .str, _, hx => hx
  | .sl t, xs, hx => fun x hm => okT_mono h t x (hx x hm)
  | .st n, x, hx => h n x hx
  | .ref n, x, hx => h n x hx

theorem okTup_mono {s s' : ∀ n, E.Γ n → Prop} (h : ∀ n x, s n x → s' n x) : ∀ (ts : List (Ty N)) (x : Tup E.Γ ts), okTup s ts x → okTup s' ts x
  | [], _, hx => hx
  | [t], x, hx => okT_mono h t x hx
  | t :: u :: ts, (x, y), hx => ⟨okT_mono h t x hx.1, okTup_mono h (u :: ts) y hx.2⟩

theorem szD_succ : ∀ (k : Nat) (n : N) (x : E.Γ n), szD E k n x ≤ szD E (k + 1) n x
  | 0, _, _ => Nat.zero_le _
  | k + 1, n, x => Nat.add_le_add_right (szTup_mono (szD_succ k) _ _) 1

theorem szD_ok (k : Nat) (n : N) (x : E.Γ n) : szD E k n x ≤ szTup (szD E k) (E.fl n) (E.un n x) + 1 := szD_succ k n x

theorem okD_succ : ∀ (k : Nat) (n : N) (x : E.Γ n), okD E (k + 1) n x → okD E k n x
  | 0, _, _, _ => trivial
  | k + 1, n, x, h => okTup_mono (okD_succ k) _ _ h

theorem okD_ok (k : Nat) (n : N) (x : E.Γ n) (h : okTup (okD E k) (E.fl n) (E.un n x)) : okD E k n x := okD_succ k n x h

theorem szT_pos (k : Nat) (t : Ty N) (x : den E.Γ t) : 1 ≤ szT (szD E (k + 1)) t x := by
  cases t <;> simp only [szT, szD] <;> omega

theorem sum_mono {α : Type} {f g : α → Nat} {xs : List α} (h : ∀ x ∈ xs, f x ≤ g x) : (xs.map f).sum ≤ (xs.map g).sum := by
  induction xs with
  | nil => exact Nat.le_refl _
  | cons x xs ih =>
    have h1 := h x (by simp)
    have h2 := ih fun y hy => h y (List.mem_cons_of_mem _ hy)
    simp only [List.map_cons, List.sum_cons]
    omega

/-- A slice's size bounds its length and each of its elements. -/
theorem sl_le {k B : Nat} {t : Ty N} {xs : List (den E.Γ t)} (h : szT (szD E (k + 1)) (.sl t) xs ≤ B) : xs.length + 1 ≤ B ∧ ∀ x ∈ xs, szT (szD E (k + 1)) t x + 1 ≤ B := by
  simp only [szT] at h
  have h1 : xs.length ≤ (xs.map (szT (szD E (k + 1)) t)).sum := by
    have := sum_mono (xs := xs) (f := fun _ => 1) (g := szT (szD E (k + 1)) t) fun x _ => szT_pos k t x
    simp only [List.map_const', List.sum_replicate_nat] at this
    omega
  refine ⟨by omega, fun x hx => ?_⟩
  have h2 : szT (szD E (k + 1)) t x ≤ (xs.map (szT (szD E (k + 1)) t)).sum := by
    clear h h1
    induction xs with
    | nil => cases hx
    | cons y ys ih =>
      simp only [List.map_cons, List.sum_cons]
      rcases List.mem_cons.1 hx with rfl | hx
      · omega
      · have := ih hx; omega
  omega

end
end Go.Ai
namespace Go.Ai.Pav
open Go Go.Ai

/-! ### What the bound gives -/
abbrev Z (k : Nat) (t : Ty Nm) (x : den E.Γ t) : Nat := szT (szD E k) t x

theorem z_feature {k B : Nat} {f : api_Feature} (h : Z (k + 2) (.st .api_Feature) f ≤ B) : f.fName.length + f.fValue.length + 3 ≤ B := by
  have e : Z (k + 2) (.st .api_Feature) f = (f.fName.length + 1) + (f.fValue.length + 1) + 1 := rfl
  omega

theorem z_rec {k B : Nat} (hB : B ≤ 1048576) {r : List api_Feature} (h : Z (k + 2) (.sl (.st .api_Feature)) r ≤ B) : okR r ∧ r.length + 1 ≤ B := by
  obtain ⟨h1, h2⟩ := sl_le h
  have h1 : r.length + 1 ≤ B := h1
  exact ⟨⟨by omega, fun f hf => by have := z_feature (h2 f hf |> Nat.le_of_succ_le); exact ⟨by omega, by omega⟩⟩, h1⟩

theorem z_recs {k B : Nat} (hB : B ≤ 1048576) {r : List (List api_Feature)} (h : Z (k + 2) (.sl (.sl (.st .api_Feature))) r ≤ B) : okInh r := by
  obtain ⟨h1, h2⟩ := sl_le h
  have h1 : r.length + 1 ≤ B := h1
  exact ⟨by omega, fun f hf => (z_rec hB (h2 f hf |> Nat.le_of_succ_le)).1⟩

theorem z_affix {k B : Nat} (hB : B ≤ 1048576) {x : api_Affix} (h : Z (k + 3) (.st .api_Affix) x ≤ B) : okAffix x := by
  have e : Z (k + 3) (.st .api_Affix) x = Z (k + 2) (.sl (.st .api_Feature)) x.fWhen + ((x.fPrefix.length + 1) + (x.fSuffix.length + 1)) + 1 := rfl
  obtain ⟨h1, h2⟩ := z_rec (k := k) (B := B) hB (r := x.fWhen) (by omega)
  exact ⟨h1, by omega, by omega, by omega⟩

theorem z_slots {k B : Nat} (hB : B ≤ 1048576) {ss : List (List api_Affix)} (h : Z (k + 3) (.sl (.sl (.st .api_Affix))) ss ≤ B) : okSlots ss ∧ szS ss + 1 ≤ B := by
  obtain ⟨h1, h2⟩ := sl_le h
  have h1 : ss.length + 1 ≤ B := h1
  refine ⟨⟨by omega, fun s hs => ?_⟩, ?_⟩
  · obtain ⟨h3, h4⟩ := sl_le (h2 s hs |> Nat.le_of_succ_le)
    have h3 : s.length + 1 ≤ B := h3
    exact ⟨by omega, fun x hx => z_affix hB (h4 x hx |> Nat.le_of_succ_le)⟩
  · have e : Z (k + 3) (.sl (.sl (.st .api_Affix))) ss = (ss.map (Z (k + 3) (.sl (.st .api_Affix)))).sum + 1 := rfl
    have : szS ss ≤ (ss.map (Z (k + 3) (.sl (.st .api_Affix)))).sum := by
      unfold szS
      refine sum_mono fun s _ => ?_
      have e2 : Z (k + 3) (.sl (.st .api_Affix)) s = (s.map (Z (k + 3) (.st .api_Affix))).sum + 1 := rfl
      have : szA s ≤ (s.map (Z (k + 3) (.st .api_Affix))).sum := by
        unfold szA
        refine sum_mono fun x _ => ?_
        have e3 : Z (k + 3) (.st .api_Affix) x = Z (k + 2) (.sl (.st .api_Feature)) x.fWhen + ((x.fPrefix.length + 1) + (x.fSuffix.length + 1)) + 1 := rfl
        omega
      omega
    omega

theorem z_dims {k B : Nat} (hB : B ≤ 1048576) {ds : List api_Dimension} (h : Z (k + 2) (.sl (.st .api_Dimension)) ds ≤ B) : okDims ds := by
  obtain ⟨h1, h2⟩ := sl_le h
  have h1 : ds.length + 1 ≤ B := h1
  refine ⟨by omega, fun d hd => ?_⟩
  have h3 : Z (k + 2) (.st .api_Dimension) d + 1 ≤ B := h2 d hd
  have e : Z (k + 2) (.st .api_Dimension) d = (d.fName.length + 1) + Z (k + 1) (.sl .str) d.fValues + 1 := rfl
  have h4 : Z (k + 1) (.sl .str) d.fValues ≤ B := by omega
  obtain ⟨h5, h6⟩ := sl_le h4
  have h5 : d.fValues.length + 1 ≤ B := h5
  refine ⟨by omega, by omega, fun v hv => ?_⟩
  have h7 : (v.length + 1) + 1 ≤ B := h6 v hv
  omega

theorem z_par {k B : Nat} (hB : B ≤ 1048576) {p : api_Paradigm} (h : Z (k + 4) (.st .api_Paradigm) p ≤ B) : OkP p ∧ szS p.fSlots + 3 ≤ B := by
  have e : Z (k + 4) (.st .api_Paradigm) p = (p.fName.length + 1) + (Z (k + 3) (.sl (.st .api_Dimension)) p.fDimensions + Z (k + 3) (.sl (.sl (.st .api_Affix))) p.fSlots) + 1 := rfl
  have hd := szT_pos (E := E) (k + 2) (.sl (.st .api_Dimension)) p.fDimensions
  have hd' : 1 ≤ Z (k + 3) (.sl (.st .api_Dimension)) p.fDimensions := hd
  obtain ⟨h1, h2⟩ := z_slots (k := k) (B := B - 2) (by omega) (ss := p.fSlots) (by omega)
  have hdd : Z (k + 1 + 2) (.sl (.st .api_Dimension)) p.fDimensions ≤ B := by show Z (k + 3) (.sl (.st .api_Dimension)) p.fDimensions ≤ B; omega
  exact ⟨⟨by omega, z_dims (k := k + 1) hB hdd, h1, by omega⟩, by omega⟩

theorem z_letters {k B : Nat} (hB : B ≤ 1048576) {a : List api_Letter} (h : Z (k + 1) (.sl (.st .api_Letter)) a ≤ B) : a.length ≤ 1048576 := by
  obtain ⟨h1, _⟩ := sl_le h
  have h1 : a.length + 1 ≤ B := h1
  omega

abbrev Z8 (t : Ty Nm) (x : den E.Γ t) : Nat := szT (szD E 8) t x
theorem z8_rec {B : Nat} (hB : B ≤ 1048576) {r : List api_Feature} (h : Z8 (.sl (.st .api_Feature)) r ≤ B) : okR r ∧ r.length + 1 ≤ B := z_rec (k := 6) hB h
theorem z8_recs {B : Nat} (hB : B ≤ 1048576) {r : List (List api_Feature)} (h : Z8 (.sl (.sl (.st .api_Feature))) r ≤ B) : okInh r := z_recs (k := 6) hB h
theorem z8_affix {B : Nat} (hB : B ≤ 1048576) {x : api_Affix} (h : Z8 (.st .api_Affix) x ≤ B) : okAffix x := z_affix (k := 5) hB h
theorem z8_par {B : Nat} (hB : B ≤ 1048576) {p : api_Paradigm} (h : Z8 (.st .api_Paradigm) p ≤ B) : OkP p ∧ szS p.fSlots + 3 ≤ B := z_par (k := 4) hB h
theorem z8_letters {B : Nat} (hB : B ≤ 1048576) {a : List api_Letter} (h : Z8 (.sl (.st .api_Letter)) a ≤ B) : a.length ≤ 1048576 := z_letters (k := 7) hB h

end Go.Ai.Pav
namespace Go.Ai.Pav
open Go Go.Ai

/-! ### No cell stands twice -/
theorem valsF_nodup {vals : List (List UInt8)} : ∀ {r : List (List UInt8)} {i : Nat}, vals.drop i = r → valsF vals i r = true → (r.Pairwise fun x y => x ≠ y) ∧ ∀ x ∈ vals.take i, ∀ y ∈ r, x ≠ y
  | [], i, _, _ => ⟨List.Pairwise.nil, fun x _ y hy => (by cases hy)⟩
  | v :: r, i, hd, h => by
    simp only [valsF, Bool.and_eq_true, Bool.not_eq_true', List.any_eq_false] at h
    obtain ⟨⟨_, h1⟩, h2⟩ := h
    have hi : i < vals.length := by
      rcases Nat.lt_or_ge i vals.length with h | h
      · exact h
      · rw [List.drop_of_length_le h] at hd; cases hd
    have hc := List.drop_eq_getElem_cons hi
    rw [hd] at hc
    obtain ⟨e1, e2⟩ := List.cons.inj hc
    obtain ⟨g1, g2⟩ := valsF_nodup e2.symm h2
    rw [List.take_succ_eq_append_getElem hi, ← e1] at g2
    refine ⟨List.pairwise_cons.2 ⟨fun y hy => g2 v (by simp) y hy, g1⟩, fun x hx y hy => ?_⟩
    rcases List.mem_cons.1 hy with rfl | hy
    · have := h1 x hx
      simp only [decide_eq_true_eq] at this
      exact fun e => this e.symm
    · exact g2 x (by simp [hx]) y hy

theorem dimsF_vals {all : List api_Dimension} : ∀ {r : List api_Dimension} {i : Nat}, dimsF all i r = true → ∀ d ∈ r, d.fValues.Pairwise fun x y => x ≠ y
  | [], _, _, d, hd => by cases hd
  | e :: r, i, h, d, hd => by
    simp only [dimsF, dimOk, Bool.and_eq_true] at h
    rcases List.mem_cons.1 hd with rfl | hd
    · exact (valsF_nodup (i := 0) (by simp) h.1.1.2).1
    · exact dimsF_vals h.2 d hd

theorem choices_nodup : ∀ {ds : List api_Dimension}, (∀ d ∈ ds, d.fValues.Pairwise fun x y => x ≠ y) → (choices ds).Pairwise fun x y => x ≠ y
  | [], _ => List.pairwise_singleton _ _
  | d :: ds, h => by
    simp only [choices]
    rw [List.pairwise_flatMap]
    refine ⟨fun v _ => ?_, ?_⟩
    · rw [List.pairwise_map]
      exact (choices_nodup fun d hd => h d (List.mem_cons_of_mem _ hd)).imp fun hne e => hne (by simpa using e)
    · refine (h d (by simp)).imp fun {v w} hne x hx y hy e => ?_
      simp only [List.mem_map] at hx hy
      obtain ⟨x', _, rfl⟩ := hx
      obtain ⟨y', _, rfl⟩ := hy
      simp only [List.cons.injEq, api_Feature.mk.injEq, true_and] at e
      exact hne e.1

theorem cells_nodup (ds : List api_Dimension) : (cells ds).Pairwise fun x y => x ≠ y := by
  unfold cells
  cases hd : dimsOk ds with
  | false => exact List.Pairwise.nil
  | true =>
    have hg := dimsOk_good hd
    simp only [dimsOk, Bool.and_eq_true] at hd
    simp only [cond_true, allF]
    rw [List.pairwise_map]
    refine (choices_nodup (dimsF_vals hd.2)).imp_of_mem fun {x y} hx hy hne e => hne ?_
    have dx := distinct_of_names (choices_names hx) hg.names
    have dy := distinct_of_names (choices_names hy) hg.names
    have h1 := (pick_of (asc_distinct (rec_asc dx)) hx fun f hf => rec_mem.2 hf).1
    have h2 := (pick_of (asc_distinct (rec_asc dy)) hy fun f hf => rec_mem.2 hf).1
    rw [← h1, e, h2]

theorem fst_nodup {α : Type} [DecidableEq α] [Inhabited α] : ∀ {xs : List α} (n i : Nat), (xs.Pairwise fun x y => x ≠ y) → n < xs.length → fstIdx (fun c => decide (c = xs.getD n default)) xs i = ((i + n : Nat) : Int)
  | [], n, _, _, h => by simp at h
  | x :: xs, 0, i, _, _ => by simp [fstIdx]
  | x :: xs, n + 1, i, hp, h => by
    obtain ⟨h1, h2⟩ := List.pairwise_cons.1 hp
    have hl : n < xs.length := by simpa using h
    have hne : x ≠ xs.getD n default := h1 _ (getD_mem hl)
    have hg : (x :: xs).getD (n + 1) default = xs.getD n default := rfl
    simp only [fstIdx, hg, hne, decide_false, cond_false]
    rw [fst_nodup n (i + 1) h2 hl]
    omega

/-! ### What stands before a stem and behind it -/
def preS (r : List api_Feature) : List (List api_Affix) → List UInt8
  | [] => []
  | s :: ss => preS r ss ++ match pickA r s with
    | some x => x.fPrefix
    | none => []
def sufS (r : List api_Feature) : List (List api_Affix) → List UInt8
  | [] => []
  | s :: ss => (match pickA r s with
    | some x => x.fSuffix
    | none => []) ++ sufS r ss

theorem formS_wrap (r : List api_Feature) : ∀ (ss : List (List api_Affix)) (f : List UInt8), formS r ss f = (preS r ss ++ f) ++ sufS r ss
  | [], f => by simp [formS, preS, sufS]
  | s :: ss, f => by
    simp only [formS, preS, sufS, wrapA]
    rw [formS_wrap r ss]
    cases pickA r s with
    | none => simp
    | some x => simp

end Go.Ai.Pav
set_option linter.unusedVariables false
set_option linter.unusedSectionVars false
noncomputable section
namespace Go.Ai.Pav
open Go Go.Ai Go.Proofs
noncomputable def sigs3 (M : Nat) : List (Nat × Sig E) := [(4, pentaglotlaw10_awake.sig M), (5, paradigm_Valid.sig M), (6, pentaglotref10_Valid.sig M)]
noncomputable def rs3 (M : Nat) : List (Nat × Sig E) := []
noncomputable def its3 (M : Nat) : List (Nat × It E) := []
theorem sigs_ok3 (M : Nat) : SigsOk Tryd.prog (sigs3 M) := SigsOk.cons (pentaglotlaw10_awake.says M) (SigsOk.cons (paradigm_Valid.says M) (SigsOk.cons (pentaglotref10_Valid.says M) (SigsOk.nil)))
theorem rs_ok3 (M : Nat) : SigsOk Tryd.prog (rs3 M) := SigsOk.nil
theorem its_ok3 (M : Nat) : ItsOk Tryd.prog (its3 M) := ItsOk.nil
noncomputable def C3 (M : Nat) : Ctx E := { ti := fun t => tisE.lookup t, sig := fun f => (sigs3 M).lookup f, it := fun f => (its3 M).lookup f, nt := 20 }
theorem SigOk_C3 (M : Nat) : SigOk Tryd.prog (C3 M) := sigs_ok3 M
theorem RSigOk_C3 (M : Nat) : SigOk Tryd.prog ({ ti := fun _ => none, sig := fun f => (rs3 M).lookup f } : Ctx E) := rs_ok3 M
theorem ItOk_C3 (M : Nat) : ItOk Tryd.prog (C3 M) := (its_ok3 M).ok
namespace pentaglotlaw10_ParadigmValid
noncomputable def plans : List (Option (Plan Nm)) := [none, none]
noncomputable abbrev body : Code := bodyOf Tryd.f3
def ps : List (Ty Nm) := [(.sl (.st .api_Letter)), (.st .api_Paradigm)]
def rs : List (Ty Nm) := [.bool]
def ex : List (Option Nat) := [none]
noncomputable def inl : List (Nat × Nat × Nat × Inl Nm) := []
theorem inl_ok : InlsOk Tryd.prog inl := InlsOk.nil
noncomputable def X (M : Nat) : Ext E Bool := extOf (C3 M) (inlOf inl) (fun f => (rs3 M).lookup f) (fun _ _ _ => none) noX M 1
abbrev Rt := Bool
noncomputable def H (M : Nat) : Hd E Rt := hd0 (X M)
theorem Hok (M : Nat) : (H M).ok (C3 M) M := hd0_ok _
abbrev Zt := List Dir → St E → Option Rt
abbrev Ut := St E → Option Rt
noncomputable def s (M : Nat) (aa0_0 : (List api_Letter)) (pa1_0 : api_Paradigm) : Option Rt :=
  Option.bind (pentaglotlaw10_awake M) fun r5_1 =>
  cond (r5_1)
   (cond (decide (200 < (aa0_0.length : Int)))
     (some true)
     (Option.bind (paradigm_Valid M aa0_0 pa1_0) fun r13_2 =>
      Option.bind (pentaglotref10_Valid M aa0_0 pa1_0) fun r16_3 =>
      some (decide (r13_2 = r16_3))))
   (some false)
end pentaglotlaw10_ParadigmValid
noncomputable def pentaglotlaw10_ParadigmValid (M : Nat) (aa0_0 : (List api_Letter)) (pa1_0 : api_Paradigm) : Option Bool :=
  pentaglotlaw10_ParadigmValid.s M aa0_0 pa1_0
namespace pentaglotlaw10_ParadigmValid
noncomputable def K (M : Nat) : Cont E Bool := kRet (C3 M) Tryd.f3.results.toList rs ex
set_option maxRecDepth 100000
theorem g (M : Nat) (Z : Zt) (aa0_0 : (List api_Letter)) (pa1_0 : api_Paradigm) : runZ (C3 M) (extZ (C3 M) (H M) 0) Z body plans (start (argHs ps (aa0_0, pa1_0)) Tryd.f3.ntmps 20) (K M) = s M aa0_0 pa1_0 := by kernel_rfl
theorem run (M : Nat) (aa0_0 : (List api_Letter)) (pa1_0 : api_Paradigm) : runF (rs := rs) (C3 M) (X M) M body Tryd.f3.ntmps 20 Tryd.f3.results.toList plans ps ex (aa0_0, pa1_0) = pentaglotlaw10_ParadigmValid M aa0_0 pa1_0 := by
  refine Eq.trans (b := runC (C3 M) (X M) M body plans (start (argHs ps (aa0_0, pa1_0)) Tryd.f3.ntmps 20) (K M)) (by kernel_rfl) ?_
  refine (zrun (Hok M) 0 body plans _ (K M) (fun _ => none) fun _ => rfl).symm.trans ?_
  refine (g M _ aa0_0 pa1_0).trans ?_
  rfl
noncomputable def sig (M : Nat) : Sig E := { ps := ps, rs := rs, ex := ex, fn := fun x => pentaglotlaw10_ParadigmValid M x.1 x.2 }
theorem says (M : Nat) : callable Tryd.prog 3 = true ∧ ∀ x y, (sig M).fn x = some y → Says Tryd.prog 3 (sig M) x y := by
  refine ⟨by kernel_rfl, fun x y h => ?_⟩
  refine says_of_run (S := sig M) (C := C3 M) (X := X M) (M := M) (q := 20) (plans := plans) (COk_Tryd) (SigOk_C3 M) (ItOk_C3 M) (by kernel_rfl) (callOk_ext COk_Tryd (SigOk_C3 M) (ItOk_C3 M) (by kernel_rfl) inl_ok.ok (RSigOk_C3 M) (fun _ => callOk_none) M 1) (Tryd.func3) (body := body) (by kernel_rfl) (by kernel_rfl) ?_
  obtain ⟨aa0_0, pa1_0⟩ := x
  exact (run M aa0_0 pa1_0).trans h
end pentaglotlaw10_ParadigmValid
end Go.Ai.Pav
end
/- ParadigmValid, plain. -/
namespace Go.Ai.Pav
open Go Go.Ai
variable {M : Nat}

theorem count_zero {ds : List api_Dimension} : (count ds = 0) ↔ dimsOk ds = false := by
  unfold count
  cases h : dimsOk ds with
  | false => simp
  | true =>
    simp only [cond_true]
    have key : ∀ (pre all : List api_Dimension) (i : Nat), dimsF all i pre = true → prod pre ≠ 0 := by
      intro pre
      induction pre with
      | nil => intro all i _; decide
      | cons d t ih =>
        intro all i h
        simp only [dimsF, dimOk, Bool.and_eq_true, decide_eq_true_eq] at h
        simp only [prod, ne_eq, Nat.mul_eq_zero, not_or]
        exact ⟨by omega, ih _ _ h.2⟩
    unfold dimsOk at h
    rw [Bool.and_eq_true] at h
    simp [key ds ds 0 h.2]

theorem paradigm_Valid_eq (hM : 1048576 < M) {a : List api_Letter} (ha : a.length ≤ 1048576) {p : api_Paradigm} (hn : p.fName.length ≤ 1048576) (hd : okDims p.fDimensions) (hs : okSlots p.fSlots) : paradigm_Valid M a p = some (validB M a p) := by
  have hw : ∀ {s : List UInt8}, s.length ≤ 1048576 → alphabet_IsWord M a s = some ((pentaglotref10_Word M a s).getD false) := fun hs => by rw [isWord_eq hM ha hs, ref10_Word_eq hM ha hs]; rfl
  have hname : feature_Valid M [⟨p.fName, [120]⟩] = some (isName p.fName) := by
    rw [feature_Valid_eq hM ⟨by simp, fun f hf => ?_⟩]
    · congr 1
      have : isName [120] = true := by decide
      simp [isValid, goodF, this, isRec, asc]
    · simp only [List.mem_cons, List.not_mem_nil, or_false] at hf
      subst hf
      exact ⟨hn, by simp⟩
  unfold paradigm_Valid paradigm_Valid.s validB
  rw [alphabet_Valid_eq hM ha, ref10_Alphabet_eq hM ha, hname, paradigm_Count_eq hM hd]
  simp only [Option.bind_some, Option.getD_some, cnot]
  cases alphaB a with
  | false => rfl
  | true =>
    cases isName p.fName with
    | false => rfl
    | true =>
      simp only [cond_true, Bool.true_and]
      by_cases h0 : (count p.fDimensions : Int) = 0
      · have := count_zero.1 (by omega : count p.fDimensions = 0)
        rw [cpos h0, this]; rfl
      · have : dimsOk p.fDimensions = true := by
          cases h : dimsOk p.fDimensions with
          | true => rfl
          | false => exact absurd (by exact_mod_cast count_zero.2 h) h0
        rw [cneg h0, this]
        simp only [Bool.true_and]
        by_cases h8 : p.fSlots.length ≤ 8
        · rw [cneg (by omega)]
          simp only [h8, decide_true, Bool.true_and]
          have inner : ∀ (h1 : List api_Letter → api_Paradigm → Int → Option Bool) (i : Nat) (s : List api_Affix), i < p.fSlots.length → p.fSlots.getD i default = s → paradigm_Valid.l2 M h1 M a p i 0 = cond (s.all (affB M a)) (h1 a p ((i + 1 : Nat) : Int)) (some false) := by
            intro h1 i s hi hsi
            obtain ⟨hl, hx⟩ := hs.2 s (by rw [← hsi]; exact getD_mem hi)
            exact over (xs := s) (f := fun k j (_ : Unit) => paradigm_Valid.l2 M h1 k a p i j) (g := fun t _ => cond (t.all (affB M a)) (h1 a p ((i + 1 : Nat) : Int)) (some false)) (fun k _ => by
              simp (disch := omega) only [paradigm_Valid.l2, paradigm_Valid.s2, Int.toNat_natCast, hsi, ↓cneg (Int.lt_irrefl _), List.all_nil, cond_true, wsucc]) (fun k j x t _ hj hxj ih => by
              have ih := ih ()
              obtain ⟨a1, a2, a3, a4⟩ := hx x (by rw [← hxj]; exact getD_mem hj)
              simp (disch := omega) only [paradigm_Valid.l2, paradigm_Valid.s2, Int.toNat_natCast, ↓cpos, ↓cpos2, hsi, hxj, feature_Valid_eq hM a1, hw a3, hw a4, Option.bind_some, wsucc, ih, cnot, List.all_cons]
              simp only [affB]
              cases isValid x.fWhen <;> cases (pentaglotref10_Word M a x.fPrefix).getD false <;> cases (pentaglotref10_Word M a x.fSuffix).getD false <;> rfl) (k := M) (by omega) ()
          exact over (xs := p.fSlots) (f := fun k i (_ : Unit) => paradigm_Valid.l1 M k a p i) (g := fun t _ => some (t.all (slotB M a))) (fun k _ => by
            simp only [paradigm_Valid.l1, paradigm_Valid.s1, ↓cneg (Int.lt_irrefl _), List.all_nil]) (fun k i s t _ hi hsi ih => by
            have ih := ih ()
            simp (disch := omega) only [paradigm_Valid.l1, paradigm_Valid.s1, Int.toNat_natCast, ↓cpos, ↓cpos2, hsi, inner _ i s hi hsi, ih, List.all_cons, slotB]
            by_cases h64 : s.length ≤ 64
            · rw [cneg (by omega)]
              simp only [h64, decide_true, Bool.true_and]
              cases s.all (affB M a) <;> rfl
            · rw [cpos (by omega)]; simp [h64]) (k := M) (by omega) ()
        · rw [cpos (by omega)]; simp [h8]

theorem pentaglotlaw10_ParadigmValid_plain (a : List api_Letter) (p : api_Paradigm) (h : Z8 (.sl (.st .api_Letter)) a + Z8 (.st .api_Paradigm) p ≤ 1048576) : pentaglotlaw10_ParadigmValid 2097152 a p = some true := by
  have hM : 1048576 < 2097152 := by omega
  have hM2 : 2097152 ≤ 1099511627776 := by omega
  have ha := z8_letters (B := 1048576) (by omega) (a := a) (by omega)
  obtain ⟨hp, hsz⟩ := z8_par (B := 1048576) (by omega) (p := p) (by omega)
  unfold pentaglotlaw10_ParadigmValid pentaglotlaw10_ParadigmValid.s
  rw [awake_eq hM hM2, paradigm_Valid_eq hM ha hp.name hp.dims hp.slots, ref10_Valid_eq hM ha hp.name hp.dims hp.slots]
  simp

theorem pentaglotlaw10_ParadigmValid_law (x : Tup E.Γ pentaglotlaw10_ParadigmValid.ps) (_ : okTup (okD E 8) pentaglotlaw10_ParadigmValid.ps x) (h : szTup (szD E 8) pentaglotlaw10_ParadigmValid.ps x ≤ 1048576) : (pentaglotlaw10_ParadigmValid.sig 2097152).fn x = some true := by
  obtain ⟨a, p⟩ := x
  exact pentaglotlaw10_ParadigmValid_plain a p h

end Go.Ai.Pav
/- The law ParadigmValid, tied to the program's text. -/
noncomputable section
namespace Go.Proofs.YtejbamobkncfhaaDoor
open Go Go.Ai Go.Ai.Pav Go.RowKit Go.ChangeShapes
set_option maxRecDepth 100000
namespace ParadigmValid

theorem bulkOk {H : Type} : BulkOk (H := H) Rows.uptoBulk Rows.uptoBulkAll where
  str := fun l => by simp [Rows.uptoBulk]
  lit := fun l => by cases l <;> simp [Rows.uptoBulk]
  nil := by simp [Rows.uptoBulk]
  slice := fun xs ys => by simp only [Rows.uptoBulk]; omega
  agg := fun xs => by simp only [Rows.uptoBulk]; omega
  cons := fun x xs => by simp only [Rows.uptoBulkAll]; omega

theorem bound {H : Type} {l : List (DataW H)} (hk : Rows.uptoSmall H l = true) : Rows.uptoBulkAll l ≤ 1048576 := of_decide_eq_true hk
def reads : List Nat := [9, 21, 22, 23, 24, 26, 30, 45, 46, 48, 52, 54, 66, 68]
theorem own : ownKnob Tryd.prog.godebug = none := by kernel_rfl
theorem laid : laidOutB Tryd.prog = true := by kernel_rfl

theorem dFirst : Rows.laid_unicode_utf8_first = Lib.firstData := by kernel_rfl
theorem dAccept : (Rows.laid_unicode_utf8_acceptRanges : DataW Unit) = Lib.acceptData := by kernel_rfl

theorem lt_of_cell {W : World} {b o : Nat} {v : Value} (h : W.cell? ⟨b, o, none⟩ = some v) : b < W.heap.size := by
  rcases Nat.lt_or_ge b W.heap.size with h' | h'
  · exact h'
  · have : W.heap[b]? = none := Array.getElem?_eq_none h'
    simp [World.cell?, this] at h

theorem tables {W : World} (h : laidMetH Tryd.prog Rows.paradigmValidUptoRow.laid W) : utabs W (old W) := by
  have h1 : Lib.VarReads Tryd.prog W "unicode/utf8.acceptRanges" Rows.laid_unicode_utf8_acceptRanges := Lib.laidMet.reads h (.head _)
  have h2 : Lib.VarReads Tryd.prog W "unicode/utf8.first" Rows.laid_unicode_utf8_first := Lib.laidMet.reads h (.tail _ (.head _))
  rw [dAccept] at h1
  rw [dFirst] at h2
  have hT : Lib.Utf8Tabs 0 1 W := utf8Tabs_of_readsT (U8Types.of196 Tryd.laysValid) ⟨by kernel_rfl, by kernel_rfl, by kernel_rfl, by kernel_rfl, by kernel_rfl, by kernel_rfl, by kernel_rfl⟩ h2 h1
  exact ⟨fun c hc => lt_of_cell (hT.1 c hc), fun c hc => lt_of_cell (hT.2 0 (by omega)).1, hT⟩

/-- The witness: the settled world, the two tables holding what their initialisers lay. -/
def laidWorld (os : Os) : World :=
  let w0 := World.holding Tryd.prog os ⟨#[], #[], []⟩
  let put (h : Array Obj) (g : Nat) (cs : Array Value) : Array Obj := h.modify g fun
    | .cells _ t frozen => .cells cs t frozen
    | o => o
  let h1 := put w0.heap 0 (Lib.firstTab.map fun z => Value.int .u8 z).toArray
  let h2 := put h1 1 ((List.range 16).flatMap fun i => [Value.int .u8 (Lib.accLo i), Value.int .u8 (Lib.accHi i)]).toArray
  { w0 with heap := h2 }
theorem laid_met (os : Os) (args : Array Value) : laidMet Tryd.prog Rows.paradigmValidUptoRow.laid ((laidWorld os).forCall (fun _ _ => 0) ⟨#[], args, []⟩).memory :=
  (LaidIn.of_run (l := [("unicode/utf8.acceptRanges", Rows.laid_unicode_utf8_acceptRanges), ("unicode/utf8.first", Rows.laid_unicode_utf8_first)]) [1, 0] 8 (by kernel_rfl) (by kernel_rfl) (by kernel_rfl) (by kernel_rfl)).met
def wargs : Array Value := #[.slice none 0 0, .agg #[.string ⟨#[]⟩, .slice none 0 0, .slice none 0 0]]
theorem reads_ok (os : Os) {H : Type} (enc : TypeId × Value → H) : ∃ places, DataW.whole enc Tryd.prog ((laidWorld os).forCall (fun _ _ => 0) ⟨#[], wargs, []⟩).memory Tryd.f3.params.toList Rows.paradigmValidSpec.vars false wargs.toList 8 = some ([.nil, .agg [.lit (.string []), .nil, .nil]], [], places) :=
  ⟨[], by kernel_rfl⟩

theorem lifted (os : Os) (started : os.Started) (H : Type) (enc : TypeId × Value → H) (F : Stop.Interp) :
    ReturnsInHanded {} Tryd.checked os 3 .any ((Rows.OpenSpec.upto Rows.paradigmValidSpec).preRow enc Tryd.prog Tryd.f3 Rows.paradigmValidUptoRow.domain false Rows.paradigmValidUptoRow.laid) (((Rows.OpenSpec.upto Rows.paradigmValidSpec).at F).post enc Tryd.prog Tryd.f3 false true false false) := by
  obtain ⟨places, hx⟩ := reads_ok os enc
  refine returnsInHanded_of_row (C := Tryd.checked) (s := Rows.OpenSpec.upto Rows.paradigmValidSpec) own started (by kernel_rfl) Tryd.func3
    (witness_row_at (enc := enc) (C := Tryd.checked) false (laidWorld os) wargs rfl (by kernel_rfl) (by kernel_rfl) (by kernel_rfl)
      (OpenSpec.preRow_of_cond 8 hx (by kernel_rfl) (fun k hk => by cases hk; kernel_rfl) (by kernel_rfl) (laid_met os _))) ?_
  intro W base args ds gs before hval hW _ hcond _ hL _ _
  exact law_calls (COk_Tryd (sig := fun _ => none) (it := fun _ => none) (nt := 0) (r1 := []) (r2 := [])) (S := reads) (by kernel_rfl) (szD_ok 8) (okD_ok 8) laid (ps := pentaglotlaw10_ParadigmValid.ps) (by kernel_rfl) (by kernel_rfl) (tb := 4) rfl (by kernel_rfl) (F := (pentaglotlaw10_ParadigmValid.sig 2097152).fn)
    (pentaglotlaw10_ParadigmValid.says 2097152).2 pentaglotlaw10_ParadigmValid_law rfl (fun ds h => match ds, h with | [_, _], _ => rfl) hval hW bulkOk (bound (hcond _ rfl)) (tables hL)

theorem saidUpto : Rows.ParadigmValidUptoSaid :=
  OpenClaim.holds_of_cond 3 Tryd.f3 rfl rfl rfl rfl rfl rfl rfl ⟨rfl, rfl, rfl, rfl, rfl⟩ rfl rfl rfl rfl rfl (by kernel_rfl) Tryd.func3 (by kernel_rfl)
    (of_decide_eq_true (by kernel_rfl)) (by unfold Func.isWrapper; first | (rw [if_pos (by decide +kernel)]; kernel_rfl) | (rw [if_neg (by decide +kernel)]; exact ⟨rfl, rfl⟩))
    (fun os started H enc _ F => by rw [OpenClaim.pre_eq_preRow]; exact lifted os started H enc F)

theorem plain (f : FuncId) (fn : Func) (hf : Tryd.pinned.checked.prog.funcNamed "pentaglot/pentaglotlaw10.ParadigmValid" = some f) (hfn : Tryd.pinned.checked.prog.funcs[f]? = some fn) :
    false = Tryd.pinned.checked.prog.looks [] ∧ ∀ (j : Nat) t, fn.params[j]? = some t → Tryd.pinned.checked.prog.wantsStandIn t = false := by
  obtain rfl : f = 3 := Option.some.inj ((show Tryd.prog.funcNamed "pentaglot/pentaglotlaw10.ParadigmValid" = some 3 by kernel_rfl).symm.trans hf) |>.symm
  obtain rfl : fn = Tryd.f3 := (Option.some.inj (Tryd.func3.symm.trans hfn)).symm
  refine ⟨by kernel_rfl, fun j t ht => ?_⟩
  have ht : (#[22, 26] : Array Nat)[j]? = some t := ht
  rcases (show t = 22 ∨ t = 26 by simpa using Array.mem_of_getElem? ht) with rfl | rfl
  · exact (show Tryd.prog.wantsStandIn 22 = false by kernel_rfl)
  · exact (show Tryd.prog.wantsStandIn 26 = false by kernel_rfl)

theorem said : Rows.ParadigmValidUptoCardSaid :=
  Claim7.holds_tied_plain_at .later [] _ _ _ _ saidUpto (fun _ h => by cases h) (by kernel_rfl) (fun _ h => by cases h) paradigmValidUpto_row_tie rfl ⟨rfl, rfl⟩ (by kernel_rfl) rfl plain (by kernel_rfl)

end ParadigmValid
end Go.Proofs.YtejbamobkncfhaaDoor
end
