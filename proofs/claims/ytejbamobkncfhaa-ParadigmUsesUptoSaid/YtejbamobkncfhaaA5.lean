/- A part that the proofs of the laws of this seat share: an interpreter of loaded code over typed values, what it says of the functions that the laws reach, and plain facts on these. -/
import Derived.Test.YtejbamobkncfhaaA0
import Derived.Test.YtejbamobkncfhaaA1
import Derived.Test.YtejbamobkncfhaaA2
import Derived.Test.YtejbamobkncfhaaA3
import Derived.Test.YtejbamobkncfhaaA4
set_option linter.unusedVariables false
set_option linter.unusedSectionVars false
noncomputable section
namespace Go.Ai.Par
open Go Go.Ai Go.Proofs
noncomputable def sigs12 (M : Nat) : List (Nat × Sig E) := [(15, paradigm_Cell.sig M), (16, paradigm_Count.sig M), (18, paradigm_Number.sig M), (25, paradigm_Underlying.sig M), (28, paradigm_Unused.sig M), (31, pentaglotlaw10_example.sig M), (32, pentaglotlaw10_single.sig M)]
noncomputable def rs12 (M : Nat) : List (Nat × Sig E) := []
noncomputable def its12 (M : Nat) : List (Nat × It E) := []
theorem sigs_ok12 (M : Nat) : SigsOk Try.prog (sigs12 M) := SigsOk.cons (paradigm_Cell.says M) (SigsOk.cons (paradigm_Count.says M) (SigsOk.cons (paradigm_Number.says M) (SigsOk.cons (paradigm_Underlying.says M) (SigsOk.cons (paradigm_Unused.says M) (SigsOk.cons (pentaglotlaw10_example.says M) (SigsOk.cons (pentaglotlaw10_single.says M) (SigsOk.nil)))))))
theorem rs_ok12 (M : Nat) : SigsOk Try.prog (rs12 M) := SigsOk.nil
theorem its_ok12 (M : Nat) : ItsOk Try.prog (its12 M) := ItsOk.nil
noncomputable def C12 (M : Nat) : Ctx E := { ti := fun t => tisE.lookup t, sig := fun f => (sigs12 M).lookup f, it := fun f => (its12 M).lookup f, nt := 56 }
theorem SigOk_C12 (M : Nat) : SigOk Try.prog (C12 M) := sigs_ok12 M
theorem RSigOk_C12 (M : Nat) : SigOk Try.prog ({ ti := fun _ => none, sig := fun f => (rs12 M).lookup f } : Ctx E) := rs_ok12 M
theorem ItOk_C12 (M : Nat) : ItOk Try.prog (C12 M) := (its_ok12 M).ok
namespace pentaglotlaw10_awake
noncomputable def plans : List (Option (Plan Nm)) := [none, none, none, none, none, none]
noncomputable abbrev body : Code := bodyOf Try.f12
def ps : List (Ty Nm) := []
def rs : List (Ty Nm) := [.bool]
def ex : List (Option Nat) := [none]
noncomputable def inl : List (Nat × Nat × Nat × Inl Nm) := []
theorem inl_ok : InlsOk Try.prog inl := InlsOk.nil
noncomputable def X (M : Nat) : Ext E Bool := extOf (C12 M) (inlOf inl) (fun f => (rs12 M).lookup f) (fun _ _ _ => none) M 1
abbrev Rt := Bool
abbrev Zt := List Dir → St E → Option Rt
abbrev Ut := St E → Option Rt
noncomputable def s (M : Nat) : Option Rt :=
  Option.bind (pentaglotlaw10_example M) fun r7_1 =>
  Option.bind (paradigm_Cell M r7_1 3) fun r10_2 =>
  Option.bind (pentaglotlaw10_single M [103, 101, 110, 100, 101, 114] [102]) fun r15_3 =>
  Option.bind (paradigm_Underlying M r7_1 [116, 101, 107] r15_3 r10_2.1) fun r17_4 =>
  Option.bind (pentaglotlaw10_single M [103, 101, 110, 100, 101, 114] [109]) fun r21_5 =>
  Option.bind (paradigm_Unused M r7_1 [r21_5]) fun r23_6 =>
  cond (r10_2.2)
   (Option.bind (paradigm_Count M r7_1) fun r27_7 =>
    cond (decide (r27_7 = 4))
     (Option.bind (paradigm_Number M r7_1 r10_2.1) fun r33_8 =>
      cond (decide (r33_8 = 3))
       (cond (decide (r17_4.1 = [97, 116, 101, 107, 107, 101]))
         (cond (decide (r17_4.2 = 0))
           (cond (decide ((r23_6.length : Int) = 1))
             (cond (decide (0 ≤ 0) && decide (0 < (r23_6.length : Int)))
               (some (decide (((r23_6.getD 0 default).f0) = 1) && (decide (((r23_6.getD 0 default).f1) = 0) && true)))
               none)
             (some false))
           (some false))
         (some false))
       (some false))
     (some false))
   (some false)
end pentaglotlaw10_awake
noncomputable def pentaglotlaw10_awake (M : Nat) : Option Bool :=
  pentaglotlaw10_awake.s M
namespace pentaglotlaw10_awake
noncomputable def K (M : Nat) : Cont E Bool := kRet (C12 M) Try.f12.results.toList rs ex
set_option maxRecDepth 100000
theorem g (M : Nat) (Z : Zt) : runZ (C12 M) (X M) Z body plans (start (argHs ps ()) Try.f12.ntmps 56) (K M) = s M := by kernel_rfl
theorem run (M : Nat) : runF (rs := rs) (C12 M) (X M) M body Try.f12.ntmps 56 Try.f12.results.toList plans ps ex () = pentaglotlaw10_awake M := by
  refine Eq.trans (b := runC (C12 M) (X M) M body plans (start (argHs ps ()) Try.f12.ntmps 56) (K M)) (by kernel_rfl) ?_
  refine (zrun body plans _ (K M) (fun _ => none) fun _ => rfl).symm.trans ?_
  refine (g M _).trans ?_
  rfl
noncomputable def sig (M : Nat) : Sig E := { ps := ps, rs := rs, ex := ex, fn := fun _ => pentaglotlaw10_awake M }
theorem says (M : Nat) : callable Try.prog 12 = true ∧ ∀ x y, (sig M).fn x = some y → Says Try.prog 12 (sig M) x y := by
  refine ⟨by kernel_rfl, fun x y h => ?_⟩
  refine says_of_run (S := sig M) (C := C12 M) (X := X M) (M := M) (q := 56) (plans := plans) (COk_Try) (SigOk_C12 M) (ItOk_C12 M) (by kernel_rfl) (callOk_ext COk_Try (SigOk_C12 M) (ItOk_C12 M) (by kernel_rfl) inl_ok.ok (RSigOk_C12 M) M 1) (Try.func12) (body := body) (by kernel_rfl) (by kernel_rfl) ?_
  exact (run M).trans h
end pentaglotlaw10_awake
end Go.Ai.Par
end
namespace Go.Ai.Par
open Go Go.Ai
variable {M : Nat}

/-! ### The chapter's example -/
def exF : List api_Feature := [⟨[103, 101, 110, 100, 101, 114], [102]⟩]
def exP : api_Paradigm := ⟨[110, 111, 117, 110], [⟨[110, 117, 109, 98, 101, 114], [[115, 103], [112, 108]]⟩, ⟨[99, 97, 115, 101], [[110, 111, 109], [97, 99, 99]]⟩],
  [[⟨[⟨[110, 117, 109, 98, 101, 114], [112, 108]⟩], [], [107, 101]⟩, ⟨[], [], [101]⟩], [⟨[⟨[99, 97, 115, 101], [97, 99, 99]⟩, ⟨[103, 101, 110, 100, 101, 114], [102]⟩], [97], []⟩, ⟨[⟨[99, 97, 115, 101], [97, 99, 99]⟩], [], [116]⟩]]⟩

theorem example_eq : pentaglotlaw10_example M = some exP := rfl

theorem okR_of {r : List api_Feature} (h : (decide (r.length ≤ 1048576) && r.all fun f => decide (f.fName.length ≤ 1048576) && decide (f.fValue.length ≤ 1048576)) = true) : okR r := by
  simp only [Bool.and_eq_true, decide_eq_true_eq, List.all_eq_true] at h
  exact ⟨h.1, fun f hf => h.2 f hf⟩

theorem exDims : okDims exP.fDimensions := by
  refine ⟨by decide, fun d hd => ?_⟩
  simp only [exP, List.mem_cons, List.not_mem_nil, or_false] at hd
  rcases hd with rfl | rfl
  · refine ⟨by decide, by decide, fun v hv => ?_⟩
    simp only [List.mem_cons, List.not_mem_nil, or_false] at hv
    rcases hv with rfl | rfl <;> decide
  · refine ⟨by decide, by decide, fun v hv => ?_⟩
    simp only [List.mem_cons, List.not_mem_nil, or_false] at hv
    rcases hv with rfl | rfl <;> decide

theorem exSlots : okSlots exP.fSlots ∧ ascSlots exP.fSlots ∧ ∀ s ∈ exP.fSlots, s.length ≤ 64 := by
  refine ⟨⟨by decide, fun s hs => ?_⟩, fun s hs x hx => ?_, fun s hs => ?_⟩
  · simp only [exP, List.mem_cons, List.not_mem_nil, or_false] at hs
    rcases hs with rfl | rfl <;> refine ⟨by decide, fun x hx => ?_⟩ <;> simp only [List.mem_cons, List.not_mem_nil, or_false] at hx <;> rcases hx with rfl | rfl <;> exact ⟨okR_of (by decide), by decide, by decide, by decide⟩
  · simp only [exP, List.mem_cons, List.not_mem_nil, or_false] at hs
    rcases hs with rfl | rfl <;> simp only [List.mem_cons, List.not_mem_nil, or_false] at hx <;> rcases hx with rfl | rfl <;> exact isRec_iff.1 (by decide)
  · simp only [exP, List.mem_cons, List.not_mem_nil, or_false] at hs
    rcases hs with rfl | rfl <;> decide

def exC : List api_Feature := [⟨[99, 97, 115, 101], [97, 99, 99]⟩, ⟨[110, 117, 109, 98, 101, 114], [112, 108]⟩]
theorem exCell : cellS exP.fDimensions 3 = (exC, true) := by decide
theorem exCount : count exP.fDimensions = 4 := by decide
theorem exNum : numP exP.fDimensions exC = 3 := by decide
def exM : List api_Feature := [⟨[99, 97, 115, 101], [97, 99, 99]⟩, ⟨[103, 101, 110, 100, 101, 114], [102]⟩, ⟨[110, 117, 109, 98, 101, 114], [112, 108]⟩]
theorem exMerge : mergeS exP.fDimensions exC exF = some exM := by decide
theorem exForm : formS exM exP.fSlots [116, 101, 107] = [97, 116, 101, 107, 107, 101] := by decide
theorem exUnder : underS exP.fDimensions exP.fSlots [116, 101, 107] exF exC = ([97, 116, 101, 107, 107, 101], 0) := by
  unfold underS
  rw [exMerge]
  simp only [exForm]
  have := runes_le [97, 116, 101, 107, 107, 101]
  rw [cneg (by simp at this; omega)]
theorem exUnused : rowsU (usedS exP.fDimensions exP.fSlots [[⟨[103, 101, 110, 100, 101, 114], [109]⟩]]) 0 exP.fSlots = [⟨1, 0⟩] := by decide

theorem awake_eq (hM : 1048576 < M) (hM2 : M ≤ 1099511627776) : pentaglotlaw10_awake M = some true := by
  obtain ⟨hs, ha, h64⟩ := exSlots
  have hsz : ([116, 101, 107] : List UInt8).length + szS exP.fSlots < M := by
    have h : ([116, 101, 107] : List UInt8).length + szS exP.fSlots ≤ 100 := by decide
    omega
  have hf : okR exF := okR_of (by decide)
  have hm : okInh [[⟨[103, 101, 110, 100, 101, 114], [109]⟩]] := ⟨by decide, fun r hr => by
    simp only [List.mem_cons, List.not_mem_nil, or_false] at hr
    subst hr
    exact okR_of (by decide)⟩
  unfold pentaglotlaw10_awake pentaglotlaw10_awake.s
  rw [example_eq, Option.bind_some, paradigm_Cell_eq hM exDims, Option.bind_some, exCell]
  have e1 : pentaglotlaw10_single M [103, 101, 110, 100, 101, 114] [102] = some exF := rfl
  have e2 : pentaglotlaw10_single M [103, 101, 110, 100, 101, 114] [109] = some [⟨[103, 101, 110, 100, 101, 114], [109]⟩] := rfl
  rw [e1, Option.bind_some, paradigm_Underlying_eq hM hM2 exDims hs ha (by decide) hf hsz, Option.bind_some, exUnder, e2, Option.bind_some, paradigm_Unused_eq hM exDims hs ha (by decide) h64 hm, Option.bind_some, exUnused, paradigm_Count_eq hM exDims, Option.bind_some, exCount, paradigm_Number_eq hM exDims (by decide), Option.bind_some, exNum]
  rfl

end Go.Ai.Par
namespace Go.Ai.Par
open Go Go.Ai

/-! ### What the bound gives -/
abbrev Z (k : Nat) (t : Ty Nm) (x : den E.Γ t) : Nat := szT (szD E k) t x

theorem z_feature {k B : Nat} {f : api_Feature} (h : Z (k + 2) (.st .api_Feature) f ≤ B) : f.fName.length + f.fValue.length + 3 ≤ B := by
  have e : Z (k + 2) (.st .api_Feature) f = (f.fName.length + 1) + (f.fValue.length + 1) + 1 := rfl
  omega

theorem z_rec {k B : Nat} (hB : B ≤ 1048576) {r : List api_Feature} (h : Z (k + 2) (.sl (.st .api_Feature)) r ≤ B) : okR r ∧ r.length + 1 ≤ B := by
  obtain ⟨h1, h2⟩ := sl_le h
  have h1 : r.length + 1 ≤ B := h1
  exact ⟨⟨by omega, fun f hf => by have := z_feature (h2 f hf |> Nat.le_of_succ_le); exact ⟨by omega, by omega⟩⟩, h1⟩

theorem z_recs {k B : Nat} (hB : B ≤ 1048576) {r : List (List api_Feature)} (h : Z (k + 2) (.sl (.sl (.st .api_Feature))) r ≤ B) : okInh r := by
  obtain ⟨h1, h2⟩ := sl_le h
  have h1 : r.length + 1 ≤ B := h1
  exact ⟨by omega, fun f hf => (z_rec hB (h2 f hf |> Nat.le_of_succ_le)).1⟩

theorem z_affix {k B : Nat} (hB : B ≤ 1048576) {x : api_Affix} (h : Z (k + 3) (.st .api_Affix) x ≤ B) : okAffix x := by
  have e : Z (k + 3) (.st .api_Affix) x = Z (k + 2) (.sl (.st .api_Feature)) x.fWhen + ((x.fPrefix.length + 1) + (x.fSuffix.length + 1)) + 1 := rfl
  obtain ⟨h1, h2⟩ := z_rec (k := k) (B := B) hB (r := x.fWhen) (by omega)
  exact ⟨h1, by omega, by omega, by omega⟩

theorem z_slots {k B : Nat} (hB : B ≤ 1048576) {ss : List (List api_Affix)} (h : Z (k + 3) (.sl (.sl (.st .api_Affix))) ss ≤ B) : okSlots ss ∧ szS ss + 1 ≤ B := by
  obtain ⟨h1, h2⟩ := sl_le h
  have h1 : ss.length + 1 ≤ B := h1
  refine ⟨⟨by omega, fun s hs => ?_⟩, ?_⟩
  · obtain ⟨h3, h4⟩ := sl_le (h2 s hs |> Nat.le_of_succ_le)
    have h3 : s.length + 1 ≤ B := h3
    exact ⟨by omega, fun x hx => z_affix hB (h4 x hx |> Nat.le_of_succ_le)⟩
  · have e : Z (k + 3) (.sl (.sl (.st .api_Affix))) ss = (ss.map (Z (k + 3) (.sl (.st .api_Affix)))).sum + 1 := rfl
    have : szS ss ≤ (ss.map (Z (k + 3) (.sl (.st .api_Affix)))).sum := by
      unfold szS
      refine sum_mono fun s _ => ?_
      have e2 : Z (k + 3) (.sl (.st .api_Affix)) s = (s.map (Z (k + 3) (.st .api_Affix))).sum + 1 := rfl
      have : szA s ≤ (s.map (Z (k + 3) (.st .api_Affix))).sum := by
        unfold szA
        refine sum_mono fun x _ => ?_
        have e3 : Z (k + 3) (.st .api_Affix) x = Z (k + 2) (.sl (.st .api_Feature)) x.fWhen + ((x.fPrefix.length + 1) + (x.fSuffix.length + 1)) + 1 := rfl
        omega
      omega
    omega

theorem z_dims {k B : Nat} (hB : B ≤ 1048576) {ds : List api_Dimension} (h : Z (k + 2) (.sl (.st .api_Dimension)) ds ≤ B) : okDims ds := by
  obtain ⟨h1, h2⟩ := sl_le h
  have h1 : ds.length + 1 ≤ B := h1
  refine ⟨by omega, fun d hd => ?_⟩
  have h3 : Z (k + 2) (.st .api_Dimension) d + 1 ≤ B := h2 d hd
  have e : Z (k + 2) (.st .api_Dimension) d = (d.fName.length + 1) + Z (k + 1) (.sl .str) d.fValues + 1 := rfl
  have h4 : Z (k + 1) (.sl .str) d.fValues ≤ B := by omega
  obtain ⟨h5, h6⟩ := sl_le h4
  have h5 : d.fValues.length + 1 ≤ B := h5
  refine ⟨by omega, by omega, fun v hv => ?_⟩
  have h7 : (v.length + 1) + 1 ≤ B := h6 v hv
  omega

theorem z_par {k B : Nat} (hB : B ≤ 1048576) {p : api_Paradigm} (h : Z (k + 4) (.st .api_Paradigm) p ≤ B) : OkP p ∧ szS p.fSlots + 3 ≤ B := by
  have e : Z (k + 4) (.st .api_Paradigm) p = (p.fName.length + 1) + (Z (k + 3) (.sl (.st .api_Dimension)) p.fDimensions + Z (k + 3) (.sl (.sl (.st .api_Affix))) p.fSlots) + 1 := rfl
  have hd := szT_pos (E := E) (k + 2) (.sl (.st .api_Dimension)) p.fDimensions
  have hd' : 1 ≤ Z (k + 3) (.sl (.st .api_Dimension)) p.fDimensions := hd
  obtain ⟨h1, h2⟩ := z_slots (k := k) (B := B - 2) (by omega) (ss := p.fSlots) (by omega)
  have hdd : Z (k + 1 + 2) (.sl (.st .api_Dimension)) p.fDimensions ≤ B := by show Z (k + 3) (.sl (.st .api_Dimension)) p.fDimensions ≤ B; omega
  exact ⟨⟨by omega, z_dims (k := k + 1) hB hdd, h1, by omega⟩, by omega⟩

theorem z_letters {k B : Nat} (hB : B ≤ 1048576) {a : List api_Letter} (h : Z (k + 1) (.sl (.st .api_Letter)) a ≤ B) : a.length ≤ 1048576 := by
  obtain ⟨h1, _⟩ := sl_le h
  have h1 : a.length + 1 ≤ B := h1
  omega

abbrev Z8 (t : Ty Nm) (x : den E.Γ t) : Nat := szT (szD E 8) t x
theorem z8_rec {B : Nat} (hB : B ≤ 1048576) {r : List api_Feature} (h : Z8 (.sl (.st .api_Feature)) r ≤ B) : okR r ∧ r.length + 1 ≤ B := z_rec (k := 6) hB h
theorem z8_recs {B : Nat} (hB : B ≤ 1048576) {r : List (List api_Feature)} (h : Z8 (.sl (.sl (.st .api_Feature))) r ≤ B) : okInh r := z_recs (k := 6) hB h
theorem z8_affix {B : Nat} (hB : B ≤ 1048576) {x : api_Affix} (h : Z8 (.st .api_Affix) x ≤ B) : okAffix x := z_affix (k := 5) hB h
theorem z8_par {B : Nat} (hB : B ≤ 1048576) {p : api_Paradigm} (h : Z8 (.st .api_Paradigm) p ≤ B) : OkP p ∧ szS p.fSlots + 3 ≤ B := z_par (k := 4) hB h
theorem z8_letters {B : Nat} (hB : B ≤ 1048576) {a : List api_Letter} (h : Z8 (.sl (.st .api_Letter)) a ≤ B) : a.length ≤ 1048576 := z_letters (k := 7) hB h

end Go.Ai.Par
namespace Go.Ai.Par
open Go Go.Ai

/-! ### No cell stands twice -/
theorem valsF_nodup {vals : List (List UInt8)} : ∀ {r : List (List UInt8)} {i : Nat}, vals.drop i = r → valsF vals i r = true → (r.Pairwise fun x y => x ≠ y) ∧ ∀ x ∈ vals.take i, ∀ y ∈ r, x ≠ y
  | [], i, _, _ => ⟨List.Pairwise.nil, fun x _ y hy => (by cases hy)⟩
  | v :: r, i, hd, h => by
    simp only [valsF, Bool.and_eq_true, Bool.not_eq_true', List.any_eq_false] at h
    obtain ⟨⟨_, h1⟩, h2⟩ := h
    have hi : i < vals.length := by
      rcases Nat.lt_or_ge i vals.length with h | h
      · exact h
      · rw [List.drop_of_length_le h] at hd; cases hd
    have hc := List.drop_eq_getElem_cons hi
    rw [hd] at hc
    obtain ⟨e1, e2⟩ := List.cons.inj hc
    obtain ⟨g1, g2⟩ := valsF_nodup e2.symm h2
    rw [List.take_succ_eq_append_getElem hi, ← e1] at g2
    refine ⟨List.pairwise_cons.2 ⟨fun y hy => g2 v (by simp) y hy, g1⟩, fun x hx y hy => ?_⟩
    rcases List.mem_cons.1 hy with rfl | hy
    · have := h1 x hx
      simp only [decide_eq_true_eq] at this
      exact fun e => this e.symm
    · exact g2 x (by simp [hx]) y hy

theorem dimsF_vals {all : List api_Dimension} : ∀ {r : List api_Dimension} {i : Nat}, dimsF all i r = true → ∀ d ∈ r, d.fValues.Pairwise fun x y => x ≠ y
  | [], _, _, d, hd => by cases hd
  | e :: r, i, h, d, hd => by
    simp only [dimsF, dimOk, Bool.and_eq_true] at h
    rcases List.mem_cons.1 hd with rfl | hd
    · exact (valsF_nodup (i := 0) (by simp) h.1.1.2).1
    · exact dimsF_vals h.2 d hd

theorem choices_nodup : ∀ {ds : List api_Dimension}, (∀ d ∈ ds, d.fValues.Pairwise fun x y => x ≠ y) → (choices ds).Pairwise fun x y => x ≠ y
  | [], _ => List.pairwise_singleton _ _
  | d :: ds, h => by
    simp only [choices]
    rw [List.pairwise_flatMap]
    refine ⟨fun v _ => ?_, ?_⟩
    · rw [List.pairwise_map]
      exact (choices_nodup fun d hd => h d (List.mem_cons_of_mem _ hd)).imp fun hne e => hne (by simpa using e)
    · refine (h d (by simp)).imp fun {v w} hne x hx y hy e => ?_
      simp only [List.mem_map] at hx hy
      obtain ⟨x', _, rfl⟩ := hx
      obtain ⟨y', _, rfl⟩ := hy
      simp only [List.cons.injEq, api_Feature.mk.injEq, true_and] at e
      exact hne e.1

theorem cells_nodup (ds : List api_Dimension) : (cells ds).Pairwise fun x y => x ≠ y := by
  unfold cells
  cases hd : dimsOk ds with
  | false => exact List.Pairwise.nil
  | true =>
    have hg := dimsOk_good hd
    simp only [dimsOk, Bool.and_eq_true] at hd
    simp only [cond_true, allF]
    rw [List.pairwise_map]
    refine (choices_nodup (dimsF_vals hd.2)).imp_of_mem fun {x y} hx hy hne e => hne ?_
    have dx := distinct_of_names (choices_names hx) hg.names
    have dy := distinct_of_names (choices_names hy) hg.names
    have h1 := (pick_of (asc_distinct (rec_asc dx)) hx fun f hf => rec_mem.2 hf).1
    have h2 := (pick_of (asc_distinct (rec_asc dy)) hy fun f hf => rec_mem.2 hf).1
    rw [← h1, e, h2]

theorem fst_nodup {α : Type} [DecidableEq α] [Inhabited α] : ∀ {xs : List α} (n i : Nat), (xs.Pairwise fun x y => x ≠ y) → n < xs.length → fstIdx (fun c => decide (c = xs.getD n default)) xs i = ((i + n : Nat) : Int)
  | [], n, _, _, h => by simp at h
  | x :: xs, 0, i, _, _ => by simp [fstIdx]
  | x :: xs, n + 1, i, hp, h => by
    obtain ⟨h1, h2⟩ := List.pairwise_cons.1 hp
    have hl : n < xs.length := by simpa using h
    have hne : x ≠ xs.getD n default := h1 _ (getD_mem hl)
    have hg : (x :: xs).getD (n + 1) default = xs.getD n default := rfl
    simp only [fstIdx, hg, hne, decide_false, cond_false]
    rw [fst_nodup n (i + 1) h2 hl]
    omega

/-! ### What stands before a stem and behind it -/
def preS (r : List api_Feature) : List (List api_Affix) → List UInt8
  | [] => []
  | s :: ss => preS r ss ++ match pickA r s with
    | some x => x.fPrefix
    | none => []
def sufS (r : List api_Feature) : List (List api_Affix) → List UInt8
  | [] => []
  | s :: ss => (match pickA r s with
    | some x => x.fSuffix
    | none => []) ++ sufS r ss

theorem formS_wrap (r : List api_Feature) : ∀ (ss : List (List api_Affix)) (f : List UInt8), formS r ss f = (preS r ss ++ f) ++ sufS r ss
  | [], f => by simp [formS, preS, sufS]
  | s :: ss, f => by
    simp only [formS, preS, sufS, wrapA]
    rw [formS_wrap r ss]
    cases pickA r s with
    | none => simp
    | some x => simp

end Go.Ai.Par
