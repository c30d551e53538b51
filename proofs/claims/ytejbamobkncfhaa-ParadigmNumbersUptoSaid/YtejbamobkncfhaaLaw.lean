/- The law ParadigmNumbers of the chapter on paradigms: whatever it is called with, it answers true, where what it reads is of bulk at most 1048576. -/
import Derived.Test.YtejbamobkncfhaaA0
import Derived.Test.YtejbamobkncfhaaA1
import Derived.Test.YtejbamobkncfhaaA2
import Derived.Test.YtejbamobkncfhaaA3
import Derived.Test.YtejbamobkncfhaaA4
import Derived.Test.YtejbamobkncfhaaRows
import Derived.JoinedCond
import Derived.ProofKit
set_option linter.unusedVariables false
set_option linter.unusedSectionVars false
noncomputable section
namespace Go.Ai.Par
open Go Go.Ai Go.Proofs
noncomputable def sigs31 (M : Nat) : List (Nat × Sig E) := [(32, pentaglotlaw10_single.sig M)]
noncomputable def rs31 (M : Nat) : List (Nat × Sig E) := []
noncomputable def its31 (M : Nat) : List (Nat × It E) := []
theorem sigs_ok31 (M : Nat) : SigsOk Try.prog (sigs31 M) := SigsOk.cons (pentaglotlaw10_single.says M) (SigsOk.nil)
theorem rs_ok31 (M : Nat) : SigsOk Try.prog (rs31 M) := SigsOk.nil
theorem its_ok31 (M : Nat) : ItsOk Try.prog (its31 M) := ItsOk.nil
noncomputable def C31 (M : Nat) : Ctx E := { ti := fun t => tisE.lookup t, sig := fun f => (sigs31 M).lookup f, it := fun f => (its31 M).lookup f, nt := 21 }
theorem SigOk_C31 (M : Nat) : SigOk Try.prog (C31 M) := sigs_ok31 M
theorem RSigOk_C31 (M : Nat) : SigOk Try.prog ({ ti := fun _ => none, sig := fun f => (rs31 M).lookup f } : Ctx E) := rs_ok31 M
theorem ItOk_C31 (M : Nat) : ItOk Try.prog (C31 M) := (its_ok31 M).ok
namespace pentaglotlaw10_example
noncomputable def plans : List (Option (Plan Nm)) := [none, none, none]
noncomputable abbrev body : Code := bodyOf Try.f31
def ps : List (Ty Nm) := []
def rs : List (Ty Nm) := [(.st .api_Paradigm)]
def ex : List (Option Nat) := [none]
noncomputable def inl : List (Nat × Nat × Nat × Inl Nm) := []
theorem inl_ok : InlsOk Try.prog inl := InlsOk.nil
noncomputable def X (M : Nat) : Ext E api_Paradigm := extOf (C31 M) (inlOf inl) (fun f => (rs31 M).lookup f) (fun _ _ _ => none) M 1
abbrev Rt := api_Paradigm
abbrev Zt := List Dir → St E → Option Rt
abbrev Ut := St E → Option Rt
noncomputable def s (M : Nat) : Option Rt :=
  Option.bind (pentaglotlaw10_single M [103, 101, 110, 100, 101, 114] [102]) fun r2_1 =>
  Option.bind (pentaglotlaw10_single M [110, 117, 109, 98, 101, 114] [112, 108]) fun r8_2 =>
  Option.bind (pentaglotlaw10_single M [99, 97, 115, 101] [97, 99, 99]) fun r12_3 =>
  cond (decide (r12_3.length + r2_1.length ≤ lim))
   (Option.bind (pentaglotlaw10_single M [99, 97, 115, 101] [97, 99, 99]) fun r16_4 =>
    some (api_Paradigm.mk [110, 111, 117, 110] ([api_Dimension.mk [110, 117, 109, 98, 101, 114] ([[115, 103], [112, 108]]), api_Dimension.mk [99, 97, 115, 101] ([[110, 111, 109], [97, 99, 99]])]) ([[api_Affix.mk r8_2 [] [107, 101], api_Affix.mk [] [] [101]], [api_Affix.mk (r12_3 ++ r2_1) [97] [], api_Affix.mk r16_4 [] [116]]])))
   none
end pentaglotlaw10_example
noncomputable def pentaglotlaw10_example (M : Nat) : Option api_Paradigm :=
  pentaglotlaw10_example.s M
namespace pentaglotlaw10_example
noncomputable def K (M : Nat) : Cont E api_Paradigm := kRet (C31 M) Try.f31.results.toList rs ex
set_option maxRecDepth 100000
theorem g (M : Nat) (Z : Zt) : runZ (C31 M) (X M) Z body plans (start (argHs ps ()) Try.f31.ntmps 21) (K M) = s M := by kernel_rfl
theorem run (M : Nat) : runF (rs := rs) (C31 M) (X M) M body Try.f31.ntmps 21 Try.f31.results.toList plans ps ex () = pentaglotlaw10_example M := by
  refine Eq.trans (b := runC (C31 M) (X M) M body plans (start (argHs ps ()) Try.f31.ntmps 21) (K M)) (by kernel_rfl) ?_
  refine (zrun body plans _ (K M) (fun _ => none) fun _ => rfl).symm.trans ?_
  refine (g M _).trans ?_
  rfl
noncomputable def sig (M : Nat) : Sig E := { ps := ps, rs := rs, ex := ex, fn := fun _ => pentaglotlaw10_example M }
theorem says (M : Nat) : callable Try.prog 31 = true ∧ ∀ x y, (sig M).fn x = some y → Says Try.prog 31 (sig M) x y := by
  refine ⟨by kernel_rfl, fun x y h => ?_⟩
  refine says_of_run (S := sig M) (C := C31 M) (X := X M) (M := M) (q := 21) (plans := plans) (COk_Try) (SigOk_C31 M) (ItOk_C31 M) (by kernel_rfl) (callOk_ext COk_Try (SigOk_C31 M) (ItOk_C31 M) (by kernel_rfl) inl_ok.ok (RSigOk_C31 M) M 1) (Try.func31) (body := body) (by kernel_rfl) (by kernel_rfl) ?_
  exact (run M).trans h
end pentaglotlaw10_example
end Go.Ai.Par
end
set_option linter.unusedVariables false
set_option linter.unusedSectionVars false
noncomputable section
namespace Go.Ai.Par
open Go Go.Ai Go.Proofs
noncomputable def sigs12 (M : Nat) : List (Nat × Sig E) := [(15, paradigm_Cell.sig M), (16, paradigm_Count.sig M), (18, paradigm_Number.sig M), (25, paradigm_Underlying.sig M), (28, paradigm_Unused.sig M), (31, pentaglotlaw10_example.sig M), (32, pentaglotlaw10_single.sig M)]
noncomputable def rs12 (M : Nat) : List (Nat × Sig E) := []
noncomputable def its12 (M : Nat) : List (Nat × It E) := []
theorem sigs_ok12 (M : Nat) : SigsOk Try.prog (sigs12 M) := SigsOk.cons (paradigm_Cell.says M) (SigsOk.cons (paradigm_Count.says M) (SigsOk.cons (paradigm_Number.says M) (SigsOk.cons (paradigm_Underlying.says M) (SigsOk.cons (paradigm_Unused.says M) (SigsOk.cons (pentaglotlaw10_example.says M) (SigsOk.cons (pentaglotlaw10_single.says M) (SigsOk.nil)))))))
theorem rs_ok12 (M : Nat) : SigsOk Try.prog (rs12 M) := SigsOk.nil
theorem its_ok12 (M : Nat) : ItsOk Try.prog (its12 M) := ItsOk.nil
noncomputable def C12 (M : Nat) : Ctx E := { ti := fun t => tisE.lookup t, sig := fun f => (sigs12 M).lookup f, it := fun f => (its12 M).lookup f, nt := 56 }
theorem SigOk_C12 (M : Nat) : SigOk Try.prog (C12 M) := sigs_ok12 M
theorem RSigOk_C12 (M : Nat) : SigOk Try.prog ({ ti := fun _ => none, sig := fun f => (rs12 M).lookup f } : Ctx E) := rs_ok12 M
theorem ItOk_C12 (M : Nat) : ItOk Try.prog (C12 M) := (its_ok12 M).ok
namespace pentaglotlaw10_awake
noncomputable def plans : List (Option (Plan Nm)) := [none, none, none, none, none, none]
noncomputable abbrev body : Code := bodyOf Try.f12
def ps : List (Ty Nm) := []
def rs : List (Ty Nm) := [.bool]
def ex : List (Option Nat) := [none]
noncomputable def inl : List (Nat × Nat × Nat × Inl Nm) := []
theorem inl_ok : InlsOk Try.prog inl := InlsOk.nil
noncomputable def X (M : Nat) : Ext E Bool := extOf (C12 M) (inlOf inl) (fun f => (rs12 M).lookup f) (fun _ _ _ => none) M 1
abbrev Rt := Bool
abbrev Zt := List Dir → St E → Option Rt
abbrev Ut := St E → Option Rt
noncomputable def s (M : Nat) : Option Rt :=
  Option.bind (pentaglotlaw10_example M) fun r7_1 =>
  Option.bind (paradigm_Cell M r7_1 3) fun r10_2 =>
  Option.bind (pentaglotlaw10_single M [103, 101, 110, 100, 101, 114] [102]) fun r15_3 =>
  Option.bind (paradigm_Underlying M r7_1 [116, 101, 107] r15_3 r10_2.1) fun r17_4 =>
  Option.bind (pentaglotlaw10_single M [103, 101, 110, 100, 101, 114] [109]) fun r21_5 =>
  Option.bind (paradigm_Unused M r7_1 [r21_5]) fun r23_6 =>
  cond (r10_2.2)
   (Option.bind (paradigm_Count M r7_1) fun r27_7 =>
    cond (decide (r27_7 = 4))
     (Option.bind (paradigm_Number M r7_1 r10_2.1) fun r33_8 =>
      cond (decide (r33_8 = 3))
       (cond (decide (r17_4.1 = [97, 116, 101, 107, 107, 101]))
         (cond (decide (r17_4.2 = 0))
           (cond (decide ((r23_6.length : Int) = 1))
             (cond (decide (0 ≤ 0) && decide (0 < (r23_6.length : Int)))
               (some (decide (((r23_6.getD 0 default).f0) = 1) && (decide (((r23_6.getD 0 default).f1) = 0) && true)))
               none)
             (some false))
           (some false))
         (some false))
       (some false))
     (some false))
   (some false)
end pentaglotlaw10_awake
noncomputable def pentaglotlaw10_awake (M : Nat) : Option Bool :=
  pentaglotlaw10_awake.s M
namespace pentaglotlaw10_awake
noncomputable def K (M : Nat) : Cont E Bool := kRet (C12 M) Try.f12.results.toList rs ex
set_option maxRecDepth 100000
theorem g (M : Nat) (Z : Zt) : runZ (C12 M) (X M) Z body plans (start (argHs ps ()) Try.f12.ntmps 56) (K M) = s M := by kernel_rfl
theorem run (M : Nat) : runF (rs := rs) (C12 M) (X M) M body Try.f12.ntmps 56 Try.f12.results.toList plans ps ex () = pentaglotlaw10_awake M := by
  refine Eq.trans (b := runC (C12 M) (X M) M body plans (start (argHs ps ()) Try.f12.ntmps 56) (K M)) (by kernel_rfl) ?_
  refine (zrun body plans _ (K M) (fun _ => none) fun _ => rfl).symm.trans ?_
  refine (g M _).trans ?_
  rfl
noncomputable def sig (M : Nat) : Sig E := { ps := ps, rs := rs, ex := ex, fn := fun _ => pentaglotlaw10_awake M }
theorem says (M : Nat) : callable Try.prog 12 = true ∧ ∀ x y, (sig M).fn x = some y → Says Try.prog 12 (sig M) x y := by
  refine ⟨by kernel_rfl, fun x y h => ?_⟩
  refine says_of_run (S := sig M) (C := C12 M) (X := X M) (M := M) (q := 56) (plans := plans) (COk_Try) (SigOk_C12 M) (ItOk_C12 M) (by kernel_rfl) (callOk_ext COk_Try (SigOk_C12 M) (ItOk_C12 M) (by kernel_rfl) inl_ok.ok (RSigOk_C12 M) M 1) (Try.func12) (body := body) (by kernel_rfl) (by kernel_rfl) ?_
  exact (run M).trans h
end pentaglotlaw10_awake
end Go.Ai.Par
end
namespace Go.Ai.Par
open Go Go.Ai
variable {M : Nat}

/-! ### The chapter's example -/
def exF : List api_Feature := [⟨[103, 101, 110, 100, 101, 114], [102]⟩]
def exP : api_Paradigm := ⟨[110, 111, 117, 110], [⟨[110, 117, 109, 98, 101, 114], [[115, 103], [112, 108]]⟩, ⟨[99, 97, 115, 101], [[110, 111, 109], [97, 99, 99]]⟩],
  [[⟨[⟨[110, 117, 109, 98, 101, 114], [112, 108]⟩], [], [107, 101]⟩, ⟨[], [], [101]⟩], [⟨[⟨[99, 97, 115, 101], [97, 99, 99]⟩, ⟨[103, 101, 110, 100, 101, 114], [102]⟩], [97], []⟩, ⟨[⟨[99, 97, 115, 101], [97, 99, 99]⟩], [], [116]⟩]]⟩

theorem example_eq : pentaglotlaw10_example M = some exP := rfl

theorem okR_of {r : List api_Feature} (h : (decide (r.length ≤ 1048576) && r.all fun f => decide (f.fName.length ≤ 1048576) && decide (f.fValue.length ≤ 1048576)) = true) : okR r := by
  simp only [Bool.and_eq_true, decide_eq_true_eq, List.all_eq_true] at h
  exact ⟨h.1, fun f hf => h.2 f hf⟩

theorem exDims : okDims exP.fDimensions := by
  refine ⟨by decide, fun d hd => ?_⟩
  simp only [exP, List.mem_cons, List.not_mem_nil, or_false] at hd
  rcases hd with rfl | rfl
  · refine ⟨by decide, by decide, fun v hv => ?_⟩
    simp only [List.mem_cons, List.not_mem_nil, or_false] at hv
    rcases hv with rfl | rfl <;> decide
  · refine ⟨by decide, by decide, fun v hv => ?_⟩
    simp only [List.mem_cons, List.not_mem_nil, or_false] at hv
    rcases hv with rfl | rfl <;> decide

theorem exSlots : okSlots exP.fSlots ∧ ascSlots exP.fSlots ∧ ∀ s ∈ exP.fSlots, s.length ≤ 64 := by
  refine ⟨⟨by decide, fun s hs => ?_⟩, fun s hs x hx => ?_, fun s hs => ?_⟩
  · simp only [exP, List.mem_cons, List.not_mem_nil, or_false] at hs
    rcases hs with rfl | rfl <;> refine ⟨by decide, fun x hx => ?_⟩ <;> simp only [List.mem_cons, List.not_mem_nil, or_false] at hx <;> rcases hx with rfl | rfl <;> exact ⟨okR_of (by decide), by decide, by decide, by decide⟩
  · simp only [exP, List.mem_cons, List.not_mem_nil, or_false] at hs
    rcases hs with rfl | rfl <;> simp only [List.mem_cons, List.not_mem_nil, or_false] at hx <;> rcases hx with rfl | rfl <;> exact isRec_iff.1 (by decide)
  · simp only [exP, List.mem_cons, List.not_mem_nil, or_false] at hs
    rcases hs with rfl | rfl <;> decide

def exC : List api_Feature := [⟨[99, 97, 115, 101], [97, 99, 99]⟩, ⟨[110, 117, 109, 98, 101, 114], [112, 108]⟩]
theorem exCell : cellS exP.fDimensions 3 = (exC, true) := by decide
theorem exCount : count exP.fDimensions = 4 := by decide
theorem exNum : numP exP.fDimensions exC = 3 := by decide
def exM : List api_Feature := [⟨[99, 97, 115, 101], [97, 99, 99]⟩, ⟨[103, 101, 110, 100, 101, 114], [102]⟩, ⟨[110, 117, 109, 98, 101, 114], [112, 108]⟩]
theorem exMerge : mergeS exP.fDimensions exC exF = some exM := by decide
theorem exForm : formS exM exP.fSlots [116, 101, 107] = [97, 116, 101, 107, 107, 101] := by decide
theorem exUnder : underS exP.fDimensions exP.fSlots [116, 101, 107] exF exC = ([97, 116, 101, 107, 107, 101], 0) := by
  unfold underS
  rw [exMerge]
  simp only [exForm]
  have := runes_le [97, 116, 101, 107, 107, 101]
  rw [cneg (by simp at this; omega)]
theorem exUnused : rowsU (usedS exP.fDimensions exP.fSlots [[⟨[103, 101, 110, 100, 101, 114], [109]⟩]]) 0 exP.fSlots = [⟨1, 0⟩] := by decide

theorem awake_eq (hM : 1048576 < M) (hM2 : M ≤ 1099511627776) : pentaglotlaw10_awake M = some true := by
  obtain ⟨hs, ha, h64⟩ := exSlots
  have hsz : ([116, 101, 107] : List UInt8).length + szS exP.fSlots < M := by
    have h : ([116, 101, 107] : List UInt8).length + szS exP.fSlots ≤ 100 := by decide
    omega
  have hf : okR exF := okR_of (by decide)
  have hm : okInh [[⟨[103, 101, 110, 100, 101, 114], [109]⟩]] := ⟨by decide, fun r hr => by
    simp only [List.mem_cons, List.not_mem_nil, or_false] at hr
    subst hr
    exact okR_of (by decide)⟩
  unfold pentaglotlaw10_awake pentaglotlaw10_awake.s
  rw [example_eq, Option.bind_some, paradigm_Cell_eq hM exDims, Option.bind_some, exCell]
  have e1 : pentaglotlaw10_single M [103, 101, 110, 100, 101, 114] [102] = some exF := rfl
  have e2 : pentaglotlaw10_single M [103, 101, 110, 100, 101, 114] [109] = some [⟨[103, 101, 110, 100, 101, 114], [109]⟩] := rfl
  rw [e1, Option.bind_some, paradigm_Underlying_eq hM hM2 exDims hs ha (by decide) hf hsz, Option.bind_some, exUnder, e2, Option.bind_some, paradigm_Unused_eq hM exDims hs ha (by decide) h64 hm, Option.bind_some, exUnused, paradigm_Count_eq hM exDims, Option.bind_some, exCount, paradigm_Number_eq hM exDims (by decide), Option.bind_some, exNum]
  rfl

end Go.Ai.Par
namespace Go.Ai.Par
open Go Go.Ai

/-! ### What the bound gives -/
abbrev Z (k : Nat) (t : Ty Nm) (x : den E.Γ t) : Nat := szT (szD E k) t x

theorem z_feature {k B : Nat} {f : api_Feature} (h : Z (k + 2) (.st .api_Feature) f ≤ B) : f.fName.length + f.fValue.length + 3 ≤ B := by
  have e : Z (k + 2) (.st .api_Feature) f = (f.fName.length + 1) + (f.fValue.length + 1) + 1 := rfl
  omega

theorem z_rec {k B : Nat} (hB : B ≤ 1048576) {r : List api_Feature} (h : Z (k + 2) (.sl (.st .api_Feature)) r ≤ B) : okR r ∧ r.length + 1 ≤ B := by
  obtain ⟨h1, h2⟩ := sl_le h
  have h1 : r.length + 1 ≤ B := h1
  exact ⟨⟨by omega, fun f hf => by have := z_feature (h2 f hf |> Nat.le_of_succ_le); exact ⟨by omega, by omega⟩⟩, h1⟩

theorem z_recs {k B : Nat} (hB : B ≤ 1048576) {r : List (List api_Feature)} (h : Z (k + 2) (.sl (.sl (.st .api_Feature))) r ≤ B) : okInh r := by
  obtain ⟨h1, h2⟩ := sl_le h
  have h1 : r.length + 1 ≤ B := h1
  exact ⟨by omega, fun f hf => (z_rec hB (h2 f hf |> Nat.le_of_succ_le)).1⟩

theorem z_affix {k B : Nat} (hB : B ≤ 1048576) {x : api_Affix} (h : Z (k + 3) (.st .api_Affix) x ≤ B) : okAffix x := by
  have e : Z (k + 3) (.st .api_Affix) x = Z (k + 2) (.sl (.st .api_Feature)) x.fWhen + ((x.fPrefix.length + 1) + (x.fSuffix.length + 1)) + 1 := rfl
  obtain ⟨h1, h2⟩ := z_rec (k := k) (B := B) hB (r := x.fWhen) (by omega)
  exact ⟨h1, by omega, by omega, by omega⟩

theorem z_slots {k B : Nat} (hB : B ≤ 1048576) {ss : List (List api_Affix)} (h : Z (k + 3) (.sl (.sl (.st .api_Affix))) ss ≤ B) : okSlots ss ∧ szS ss + 1 ≤ B := by
  obtain ⟨h1, h2⟩ := sl_le h
  have h1 : ss.length + 1 ≤ B := h1
  refine ⟨⟨by omega, fun s hs => ?_⟩, ?_⟩
  · obtain ⟨h3, h4⟩ := sl_le (h2 s hs |> Nat.le_of_succ_le)
    have h3 : s.length + 1 ≤ B := h3
    exact ⟨by omega, fun x hx => z_affix hB (h4 x hx |> Nat.le_of_succ_le)⟩
  · have e : Z (k + 3) (.sl (.sl (.st .api_Affix))) ss = (ss.map (Z (k + 3) (.sl (.st .api_Affix)))).sum + 1 := rfl
    have : szS ss ≤ (ss.map (Z (k + 3) (.sl (.st .api_Affix)))).sum := by
      unfold szS
      refine sum_mono fun s _ => ?_
      have e2 : Z (k + 3) (.sl (.st .api_Affix)) s = (s.map (Z (k + 3) (.st .api_Affix))).sum + 1 := rfl
      have : szA s ≤ (s.map (Z (k + 3) (.st .api_Affix))).sum := by
        unfold szA
        refine sum_mono fun x _ => ?_
        have e3 : Z (k + 3) (.st .api_Affix) x = Z (k + 2) (.sl (.st .api_Feature)) x.fWhen + ((x.fPrefix.length + 1) + (x.fSuffix.length + 1)) + 1 := rfl
        omega
      omega
    omega

theorem z_dims {k B : Nat} (hB : B ≤ 1048576) {ds : List api_Dimension} (h : Z (k + 2) (.sl (.st .api_Dimension)) ds ≤ B) : okDims ds := by
  obtain ⟨h1, h2⟩ := sl_le h
  have h1 : ds.length + 1 ≤ B := h1
  refine ⟨by omega, fun d hd => ?_⟩
  have h3 : Z (k + 2) (.st .api_Dimension) d + 1 ≤ B := h2 d hd
  have e : Z (k + 2) (.st .api_Dimension) d = (d.fName.length + 1) + Z (k + 1) (.sl .str) d.fValues + 1 := rfl
  have h4 : Z (k + 1) (.sl .str) d.fValues ≤ B := by omega
  obtain ⟨h5, h6⟩ := sl_le h4
  have h5 : d.fValues.length + 1 ≤ B := h5
  refine ⟨by omega, by omega, fun v hv => ?_⟩
  have h7 : (v.length + 1) + 1 ≤ B := h6 v hv
  omega

theorem z_par {k B : Nat} (hB : B ≤ 1048576) {p : api_Paradigm} (h : Z (k + 4) (.st .api_Paradigm) p ≤ B) : OkP p ∧ szS p.fSlots + 3 ≤ B := by
  have e : Z (k + 4) (.st .api_Paradigm) p = (p.fName.length + 1) + (Z (k + 3) (.sl (.st .api_Dimension)) p.fDimensions + Z (k + 3) (.sl (.sl (.st .api_Affix))) p.fSlots) + 1 := rfl
  have hd := szT_pos (E := E) (k + 2) (.sl (.st .api_Dimension)) p.fDimensions
  have hd' : 1 ≤ Z (k + 3) (.sl (.st .api_Dimension)) p.fDimensions := hd
  obtain ⟨h1, h2⟩ := z_slots (k := k) (B := B - 2) (by omega) (ss := p.fSlots) (by omega)
  have hdd : Z (k + 1 + 2) (.sl (.st .api_Dimension)) p.fDimensions ≤ B := by show Z (k + 3) (.sl (.st .api_Dimension)) p.fDimensions ≤ B; omega
  exact ⟨⟨by omega, z_dims (k := k + 1) hB hdd, h1, by omega⟩, by omega⟩

theorem z_letters {k B : Nat} (hB : B ≤ 1048576) {a : List api_Letter} (h : Z (k + 1) (.sl (.st .api_Letter)) a ≤ B) : a.length ≤ 1048576 := by
  obtain ⟨h1, _⟩ := sl_le h
  have h1 : a.length + 1 ≤ B := h1
  omega

abbrev Z8 (t : Ty Nm) (x : den E.Γ t) : Nat := szT (szD E 8) t x
theorem z8_rec {B : Nat} (hB : B ≤ 1048576) {r : List api_Feature} (h : Z8 (.sl (.st .api_Feature)) r ≤ B) : okR r ∧ r.length + 1 ≤ B := z_rec (k := 6) hB h
theorem z8_recs {B : Nat} (hB : B ≤ 1048576) {r : List (List api_Feature)} (h : Z8 (.sl (.sl (.st .api_Feature))) r ≤ B) : okInh r := z_recs (k := 6) hB h
theorem z8_affix {B : Nat} (hB : B ≤ 1048576) {x : api_Affix} (h : Z8 (.st .api_Affix) x ≤ B) : okAffix x := z_affix (k := 5) hB h
theorem z8_par {B : Nat} (hB : B ≤ 1048576) {p : api_Paradigm} (h : Z8 (.st .api_Paradigm) p ≤ B) : OkP p ∧ szS p.fSlots + 3 ≤ B := z_par (k := 4) hB h
theorem z8_letters {B : Nat} (hB : B ≤ 1048576) {a : List api_Letter} (h : Z8 (.sl (.st .api_Letter)) a ≤ B) : a.length ≤ 1048576 := z_letters (k := 7) hB h

end Go.Ai.Par
set_option linter.unusedVariables false
set_option linter.unusedSectionVars false
noncomputable section
namespace Go.Ai.Par
open Go Go.Ai Go.Proofs
noncomputable def sigs4 (M : Nat) : List (Nat × Sig E) := [(12, pentaglotlaw10_awake.sig M), (13, pentaglotlaw10_valid.sig M), (18, paradigm_Number.sig M), (19, pentaglotref10_Number.sig M)]
noncomputable def rs4 (M : Nat) : List (Nat × Sig E) := []
noncomputable def its4 (M : Nat) : List (Nat × It E) := []
theorem sigs_ok4 (M : Nat) : SigsOk Try.prog (sigs4 M) := SigsOk.cons (pentaglotlaw10_awake.says M) (SigsOk.cons (pentaglotlaw10_valid.says M) (SigsOk.cons (paradigm_Number.says M) (SigsOk.cons (pentaglotref10_Number.says M) (SigsOk.nil))))
theorem rs_ok4 (M : Nat) : SigsOk Try.prog (rs4 M) := SigsOk.nil
theorem its_ok4 (M : Nat) : ItsOk Try.prog (its4 M) := ItsOk.nil
noncomputable def C4 (M : Nat) : Ctx E := { ti := fun t => tisE.lookup t, sig := fun f => (sigs4 M).lookup f, it := fun f => (its4 M).lookup f, nt := 22 }
theorem SigOk_C4 (M : Nat) : SigOk Try.prog (C4 M) := sigs_ok4 M
theorem RSigOk_C4 (M : Nat) : SigOk Try.prog ({ ti := fun _ => none, sig := fun f => (rs4 M).lookup f } : Ctx E) := rs_ok4 M
theorem ItOk_C4 (M : Nat) : ItOk Try.prog (C4 M) := (its_ok4 M).ok
namespace pentaglotlaw10_ParadigmNumbers
noncomputable def plans : List (Option (Plan Nm)) := [none, none, none, none, none]
noncomputable abbrev body : Code := bodyOf Try.f4
def ps : List (Ty Nm) := [(.sl (.st .api_Letter)), (.st .api_Paradigm), (.sl (.st .api_Feature))]
def rs : List (Ty Nm) := [.bool]
def ex : List (Option Nat) := [none]
noncomputable def inl : List (Nat × Nat × Nat × Inl Nm) := []
theorem inl_ok : InlsOk Try.prog inl := InlsOk.nil
noncomputable def X (M : Nat) : Ext E Bool := extOf (C4 M) (inlOf inl) (fun f => (rs4 M).lookup f) (fun _ _ _ => none) M 1
abbrev Rt := Bool
abbrev Zt := List Dir → St E → Option Rt
abbrev Ut := St E → Option Rt
noncomputable def s (M : Nat) (aa0_0 : (List api_Letter)) (pa1_0 : api_Paradigm) (cella2_0 : (List api_Feature)) : Option Rt :=
  Option.bind (pentaglotlaw10_awake M) fun r7_2 =>
  cond (!r7_2)
   (some false)
   (Option.bind (pentaglotlaw10_valid M aa0_0 pa1_0) fun r11_3 =>
    cond (!r11_3)
     (some true)
     (Option.bind (paradigm_Number M pa1_0 cella2_0) fun r16_4 =>
      Option.bind (pentaglotref10_Number M pa1_0 cella2_0) fun r19_5 =>
      some (decide (r16_4 = r19_5))))
end pentaglotlaw10_ParadigmNumbers
noncomputable def pentaglotlaw10_ParadigmNumbers (M : Nat) (aa0_0 : (List api_Letter)) (pa1_0 : api_Paradigm) (cella2_0 : (List api_Feature)) : Option Bool :=
  pentaglotlaw10_ParadigmNumbers.s M aa0_0 pa1_0 cella2_0
namespace pentaglotlaw10_ParadigmNumbers
noncomputable def K (M : Nat) : Cont E Bool := kRet (C4 M) Try.f4.results.toList rs ex
set_option maxRecDepth 100000
theorem g (M : Nat) (Z : Zt) (aa0_0 : (List api_Letter)) (pa1_0 : api_Paradigm) (cella2_0 : (List api_Feature)) : runZ (C4 M) (X M) Z body plans (start (argHs ps (aa0_0, pa1_0, cella2_0)) Try.f4.ntmps 22) (K M) = s M aa0_0 pa1_0 cella2_0 := by kernel_rfl
theorem run (M : Nat) (aa0_0 : (List api_Letter)) (pa1_0 : api_Paradigm) (cella2_0 : (List api_Feature)) : runF (rs := rs) (C4 M) (X M) M body Try.f4.ntmps 22 Try.f4.results.toList plans ps ex (aa0_0, pa1_0, cella2_0) = pentaglotlaw10_ParadigmNumbers M aa0_0 pa1_0 cella2_0 := by
  refine Eq.trans (b := runC (C4 M) (X M) M body plans (start (argHs ps (aa0_0, pa1_0, cella2_0)) Try.f4.ntmps 22) (K M)) (by kernel_rfl) ?_
  refine (zrun body plans _ (K M) (fun _ => none) fun _ => rfl).symm.trans ?_
  refine (g M _ aa0_0 pa1_0 cella2_0).trans ?_
  rfl
noncomputable def sig (M : Nat) : Sig E := { ps := ps, rs := rs, ex := ex, fn := fun x => pentaglotlaw10_ParadigmNumbers M x.1 x.2.1 x.2.2 }
theorem says (M : Nat) : callable Try.prog 4 = true ∧ ∀ x y, (sig M).fn x = some y → Says Try.prog 4 (sig M) x y := by
  refine ⟨by kernel_rfl, fun x y h => ?_⟩
  refine says_of_run (S := sig M) (C := C4 M) (X := X M) (M := M) (q := 22) (plans := plans) (COk_Try) (SigOk_C4 M) (ItOk_C4 M) (by kernel_rfl) (callOk_ext COk_Try (SigOk_C4 M) (ItOk_C4 M) (by kernel_rfl) inl_ok.ok (RSigOk_C4 M) M 1) (Try.func4) (body := body) (by kernel_rfl) (by kernel_rfl) ?_
  obtain ⟨aa0_0, pa1_0, cella2_0⟩ := x
  exact (run M aa0_0 pa1_0 cella2_0).trans h
end pentaglotlaw10_ParadigmNumbers
end Go.Ai.Par
end
namespace Go.Ai.Par
open Go Go.Ai

theorem pentaglotlaw10_ParadigmNumbers_plain (a : List api_Letter) (p : api_Paradigm) (cell : List api_Feature) (h : Z8 (.sl (.st .api_Letter)) a + (Z8 (.st .api_Paradigm) p + (Z8 (.sl (.st .api_Feature)) cell)) ≤ 1048576) : pentaglotlaw10_ParadigmNumbers 2097152 a p cell = some true := by
  have hM : 1048576 < 2097152 := by omega
  have hM2 : 2097152 ≤ 1099511627776 := by omega
  have ha := z8_letters (B := 1048576) (by omega) (a := a) (by omega)
  obtain ⟨hp, hsz⟩ := z8_par (B := 1048576) (by omega) (p := p) (by omega)
  obtain ⟨hcr, _⟩ := z8_rec (B := 1048576) (by omega) (r := cell) (by omega)
  unfold pentaglotlaw10_ParadigmNumbers pentaglotlaw10_ParadigmNumbers.s
  rw [awake_eq hM hM2, law10_valid_eq hM ha hp, paradigm_Number_eq hM hp.dims hcr.1, ref10_Number_eq hM hp.dims, numP_numR]
  simp

theorem pentaglotlaw10_ParadigmNumbers_law (x : Tup E.Γ pentaglotlaw10_ParadigmNumbers.ps) (_ : okTup (okD E 8) pentaglotlaw10_ParadigmNumbers.ps x) (h : szTup (szD E 8) pentaglotlaw10_ParadigmNumbers.ps x ≤ 1048576) : (pentaglotlaw10_ParadigmNumbers.sig 2097152).fn x = some true := by
  obtain ⟨a, p, cell⟩ := x
  exact pentaglotlaw10_ParadigmNumbers_plain a p cell h

end Go.Ai.Par
noncomputable section
namespace Go.Proofs.Ytejbamobkncfhaa
open Go Go.Ai Go.Ai.Par Go.RowKit Go.ChangeShapes
set_option maxRecDepth 100000
namespace ParadigmNumbers

theorem bulkOk {H : Type} : BulkOk (H := H) Rows.uptoBulk Rows.uptoBulkAll where
  str := fun l => by simp [Rows.uptoBulk]
  lit := fun l => by cases l <;> simp [Rows.uptoBulk]
  nil := by simp [Rows.uptoBulk]
  slice := fun xs ys => by simp only [Rows.uptoBulk]; omega
  agg := fun xs => by simp only [Rows.uptoBulk]; omega
  cons := fun x xs => by simp only [Rows.uptoBulkAll]; omega

theorem bound {H : Type} {l : List (DataW H)} (hk : Rows.uptoSmall H l = true) : Rows.uptoBulkAll l ≤ 1048576 := of_decide_eq_true hk
def reads : List Nat := [2, 9, 21, 113, 22, 23, 24, 26, 31, 57, 58, 67, 69, 71, 115]
theorem own : ownKnob Try.prog.godebug = none := by kernel_rfl
theorem laid : laidOutB Try.prog = true := by kernel_rfl

theorem lifted (os : Os) (started : os.Started) (H : Type) (enc : TypeId × Value → H) (F : Stop.Interp) :
    ReturnsInHanded {} Try.checked os 4 .any ((Rows.OpenSpec.upto Rows.paradigmNumbersSpec).pre6 enc Try.prog Try.f4 Rows.paradigmNumbersUptoRow.domain false) (((Rows.OpenSpec.upto Rows.paradigmNumbersSpec).at F).post enc Try.prog Try.f4 false true false false) := by
  refine returnsInHanded_of_cond (C := Try.checked) (s := Rows.OpenSpec.upto Rows.paradigmNumbersSpec) (k := Rows.uptoSmall) rfl own started (by kernel_rfl) Try.func4
    (OpenSpec.witness (enc := enc) (C := Try.checked) (s := Rows.OpenSpec.upto Rows.paradigmNumbersSpec) (k := Rows.uptoSmall) rfl false ⟨#[], #[.slice none 0 0, .agg #[.string ⟨#[]⟩, .slice none 0 0, .slice none 0 0], .slice none 0 0], []⟩ 8 (by kernel_rfl) (by kernel_rfl) (by kernel_rfl)
      (x := ([.nil, .agg [.lit (.string []), .nil, .nil], .nil], [], [])) (by kernel_rfl) rfl (by kernel_rfl)) ?_
  intro W base args ds gs before hval hW _ hk _
  exact law_calls (COk_Try (sig := fun _ => none) (it := fun _ => none) (nt := 0) (r1 := []) (r2 := [])) (S := reads) (by kernel_rfl) (szD_ok 8) (okD_ok 8) laid (ps := pentaglotlaw10_ParadigmNumbers.ps) (by kernel_rfl) (by kernel_rfl) (tb := 4) rfl (by kernel_rfl) (F := (pentaglotlaw10_ParadigmNumbers.sig 2097152).fn)
    (pentaglotlaw10_ParadigmNumbers.says 2097152).2 pentaglotlaw10_ParadigmNumbers_law rfl (fun ds h => match ds, h with | [_, _, _], _ => rfl) hval hW bulkOk (bound hk)

theorem said : Rows.ParadigmNumbersUptoSaid :=
  OpenClaim.holds_of_cond 4 Try.f4 rfl rfl rfl rfl rfl rfl rfl ⟨rfl, rfl, rfl, rfl, rfl⟩ rfl rfl rfl rfl rfl (by kernel_rfl) Try.func4 (by kernel_rfl)
    (of_decide_eq_true (by kernel_rfl)) (by unfold Func.isWrapper; first | (rw [if_pos (by decide +kernel)]; kernel_rfl) | (rw [if_neg (by decide +kernel)]; exact ⟨rfl, rfl⟩))
    (fun os started H enc _ F => lifted os started H enc F)

end ParadigmNumbers
end Go.Proofs.Ytejbamobkncfhaa
end
