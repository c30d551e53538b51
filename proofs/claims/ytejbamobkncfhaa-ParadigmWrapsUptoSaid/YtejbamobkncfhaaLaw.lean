/- The law ParadigmWraps of the chapter on paradigms: whatever it is called with, it answers true, where what it reads is of bulk at most 1048576. -/
import Derived.Test.YtejbamobkncfhaaA0
import Derived.Test.YtejbamobkncfhaaA1
import Derived.Test.YtejbamobkncfhaaA2
import Derived.Test.YtejbamobkncfhaaA3
import Derived.Test.YtejbamobkncfhaaA4
import Derived.Test.YtejbamobkncfhaaA5
import Derived.Test.YtejbamobkncfhaaRows
import Derived.JoinedCond
import Derived.ProofKit
set_option linter.unusedVariables false
set_option linter.unusedSectionVars false
noncomputable section
namespace Go.Ai.Par
open Go Go.Ai Go.Proofs
noncomputable def sigs8 (M : Nat) : List (Nat × Sig E) := [(12, pentaglotlaw10_awake.sig M), (13, pentaglotlaw10_valid.sig M), (15, paradigm_Cell.sig M), (25, paradigm_Underlying.sig M)]
noncomputable def rs8 (M : Nat) : List (Nat × Sig E) := []
noncomputable def its8 (M : Nat) : List (Nat × It E) := []
theorem sigs_ok8 (M : Nat) : SigsOk Try.prog (sigs8 M) := SigsOk.cons (pentaglotlaw10_awake.says M) (SigsOk.cons (pentaglotlaw10_valid.says M) (SigsOk.cons (paradigm_Cell.says M) (SigsOk.cons (paradigm_Underlying.says M) (SigsOk.nil))))
theorem rs_ok8 (M : Nat) : SigsOk Try.prog (rs8 M) := SigsOk.nil
theorem its_ok8 (M : Nat) : ItsOk Try.prog (its8 M) := ItsOk.nil
noncomputable def C8 (M : Nat) : Ctx E := { ti := fun t => tisE.lookup t, sig := fun f => (sigs8 M).lookup f, it := fun f => (its8 M).lookup f, nt := 101 }
theorem SigOk_C8 (M : Nat) : SigOk Try.prog (C8 M) := sigs_ok8 M
theorem RSigOk_C8 (M : Nat) : SigOk Try.prog ({ ti := fun _ => none, sig := fun f => (rs8 M).lookup f } : Ctx E) := rs_ok8 M
theorem ItOk_C8 (M : Nat) : ItOk Try.prog (C8 M) := (its_ok8 M).ok
namespace pentaglotlaw10_ParadigmWraps
noncomputable def plans : List (Option (Plan Nm)) := [none, none, none, none, none, none, none, none, none, none, none, none, none, none, none, some { tmps := [(4, .asis), (5, .asis), (15, .asis), (17, .asis), (19, .asis), (21, .asis)], boxes := [] }, none, none, none, none, none, none, none]
noncomputable abbrev body : Code := bodyOf Try.f8
def ps : List (Ty Nm) := [(.sl (.st .api_Letter)), (.st .api_Paradigm), (.int .i64), (.sl (.st .api_Feature)), .str, .str]
def rs : List (Ty Nm) := [.bool]
def ex : List (Option Nat) := [none]
noncomputable def inl : List (Nat × Nat × Nat × Inl Nm) := []
theorem inl_ok : InlsOk Try.prog inl := InlsOk.nil
noncomputable def X (M : Nat) : Ext E Bool := extOf (C8 M) (inlOf inl) (fun f => (rs8 M).lookup f) (fun _ _ _ => none) M 1
abbrev Rt := Bool
abbrev Qt1 : List Dir := [.r, .r, .r, .r, .r, .r, .r, .r, .l, .r, .k]
abbrev Ht1 := ((List UInt8) × Int) → ((List UInt8) × Int) → ((List UInt8) × Int) → (List UInt8) → (List UInt8) → Int → Option Rt
abbrev Zt := List Dir → St E → Option Rt
abbrev Ut := St E → Option Rt
noncomputable def s1 (M : Nat) (h1 : Ht1) (r42_8 : (List UInt8) × Int) (r50_9 : (List UInt8) × Int) (r58_10 : (List UInt8) × Int) (sa4_0 : (List UInt8)) (ta5_0 : (List UInt8)) (k21_1 : Int) : Option Rt :=
  cond (decide (k21_1 ≤ (r42_8.1.length : Int)))
   (cond (decide (0 ≤ k21_1) && decide (k21_1 ≤ (r42_8.1.length : Int)))
     (cond (decide ((r42_8.1.take k21_1.toNat).length + sa4_0.length ≤ 1125899906842624))
       (cond (decide (0 ≤ k21_1) && decide (k21_1 ≤ (r42_8.1.length : Int)))
         (cond (decide (((r42_8.1.take k21_1.toNat) ++ sa4_0).length + (r42_8.1.drop k21_1.toNat).length ≤ 1125899906842624))
           (cond (decide (r50_9.1 = (((r42_8.1.take k21_1.toNat) ++ sa4_0) ++ (r42_8.1.drop k21_1.toNat))))
             (cond (decide (0 ≤ k21_1) && decide (k21_1 ≤ (r42_8.1.length : Int)))
               (cond (decide ((r42_8.1.take k21_1.toNat).length + ta5_0.length ≤ 1125899906842624))
                 (cond (decide (0 ≤ k21_1) && decide (k21_1 ≤ (r42_8.1.length : Int)))
                   (cond (decide (((r42_8.1.take k21_1.toNat) ++ ta5_0).length + (r42_8.1.drop k21_1.toNat).length ≤ 1125899906842624))
                     (cond (decide (r58_10.1 = (((r42_8.1.take k21_1.toNat) ++ ta5_0) ++ (r42_8.1.drop k21_1.toNat))))
                       (some true)
                       (h1 r42_8 r50_9 r58_10 sa4_0 ta5_0 (IntKind.i64.wrap (k21_1 + 1))))
                     none)
                   none)
                 none)
               none)
             (h1 r42_8 r50_9 r58_10 sa4_0 ta5_0 (IntKind.i64.wrap (k21_1 + 1))))
           none)
         none)
       none)
     none)
   (some false)
noncomputable def l1 (M : Nat) : Nat → Ht1
  | 0, _, _, _, _, _, _ => none
  | k + 1, r42_8, r50_9, r58_10, sa4_0, ta5_0, k21_1 => s1 M (l1 M k) r42_8 r50_9 r58_10 sa4_0 ta5_0 k21_1
noncomputable def s (M : Nat) (h1 : Ht1) (aa0_0 : (List api_Letter)) (pa1_0 : api_Paradigm) (na2_0 : Int) (inherenta3_0 : (List api_Feature)) (sa4_0 : (List UInt8)) (ta5_0 : (List UInt8)) : Option Rt :=
  Option.bind (pentaglotlaw10_awake M) fun r22_2 =>
  cond (!r22_2)
   (some false)
   (Option.bind (paradigm_Cell M pa1_0 na2_0) fun r27_3 =>
    Option.bind (pentaglotlaw10_valid M aa0_0 pa1_0) fun r32_7 =>
    cond (!r32_7)
     (some true)
     (cond (!r27_3.2)
       (some true)
       (Option.bind (paradigm_Underlying M pa1_0 ([] : (List UInt8)) inherenta3_0 r27_3.1) fun r42_8 =>
        Option.bind (paradigm_Underlying M pa1_0 sa4_0 inherenta3_0 r27_3.1) fun r50_9 =>
        Option.bind (paradigm_Underlying M pa1_0 ta5_0 inherenta3_0 r27_3.1) fun r58_10 =>
        cond (!decide (r42_8.2 = 0))
         (some true)
         (cond (!decide (r50_9.2 = 0))
           (some true)
           (cond (!decide (r58_10.2 = 0))
             (some true)
             (h1 r42_8 r50_9 r58_10 sa4_0 ta5_0 0))))))
end pentaglotlaw10_ParadigmWraps
noncomputable def pentaglotlaw10_ParadigmWraps (M : Nat) (aa0_0 : (List api_Letter)) (pa1_0 : api_Paradigm) (na2_0 : Int) (inherenta3_0 : (List api_Feature)) (sa4_0 : (List UInt8)) (ta5_0 : (List UInt8)) : Option Bool :=
  pentaglotlaw10_ParadigmWraps.s M (pentaglotlaw10_ParadigmWraps.l1 M M) aa0_0 pa1_0 na2_0 inherenta3_0 sa4_0 ta5_0
namespace pentaglotlaw10_ParadigmWraps
noncomputable def S1 (r42_8 : (List UInt8) × Int) (r50_9 : (List UInt8) × Int) (r58_10 : (List UInt8) × Int) (sa4_0 : (List UInt8)) (ta5_0 : (List UInt8)) (k21_1 : Int) : St E :=
  mkSt 101 101 [(4, .one (.tv (.str sa4_0))), (5, .one (.tv (.str ta5_0))), (15, .one (.tv (.str r42_8.1))), (17, .one (.tv (.str r50_9.1))), (19, .one (.tv (.str r58_10.1))), (21, .one (.tv (.int .i64 k21_1)))] [] 0 [] [] false
noncomputable def K (M : Nat) : Cont E Bool := kRet (C8 M) Try.f8.results.toList rs ex
set_option maxRecDepth 100000
theorem g1 (M : Nat) (Z : Zt) (r42_8 : (List UInt8) × Int) (r50_9 : (List UInt8) × Int) (r58_10 : (List UInt8) × Int) (sa4_0 : (List UInt8)) (ta5_0 : (List UInt8)) (k21_1 : Int) : seg (C8 M) (X M) Z body plans (K M) Qt1 (S1 r42_8 r50_9 r58_10 sa4_0 ta5_0 k21_1) = s1 M
    (fun r42_8 r50_9 r58_10 sa4_0 ta5_0 k21_1 => Z Qt1 (S1 r42_8 r50_9 r58_10 sa4_0 ta5_0 k21_1)) r42_8 r50_9 r58_10 sa4_0 ta5_0 k21_1 := by kernel_rfl
theorem g (M : Nat) (Z : Zt) (aa0_0 : (List api_Letter)) (pa1_0 : api_Paradigm) (na2_0 : Int) (inherenta3_0 : (List api_Feature)) (sa4_0 : (List UInt8)) (ta5_0 : (List UInt8)) : runZ (C8 M) (X M) Z body plans (start (argHs ps (aa0_0, pa1_0, na2_0, inherenta3_0, sa4_0, ta5_0)) Try.f8.ntmps 101) (K M) = s M
    (fun r42_8 r50_9 r58_10 sa4_0 ta5_0 k21_1 => Z Qt1 (S1 r42_8 r50_9 r58_10 sa4_0 ta5_0 k21_1)) aa0_0 pa1_0 na2_0 inherenta3_0 sa4_0 ta5_0 := by kernel_rfl
theorem el1 (M : Nat) (k : Nat) (r42_8 : (List UInt8) × Int) (r50_9 : (List UInt8) × Int) (r58_10 : (List UInt8) × Int) (sa4_0 : (List UInt8)) (ta5_0 : (List UInt8)) (k21_1 : Int) : lpAt (C8 M) (X M) M (zlq Qt1 []) body plans (K M) Qt1 k (S1 r42_8 r50_9 r58_10 sa4_0 ta5_0 k21_1) = l1 M k r42_8 r50_9 r58_10 sa4_0 ta5_0 k21_1 := by
  induction k generalizing r42_8 r50_9 r58_10 sa4_0 ta5_0 k21_1 with
  | zero => kernel_rfl
  | succ k ih =>
    refine Eq.trans (b := lpAt (C8 M) (X M) M (zlq Qt1 [lpAt (C8 M) (X M) M (zlq Qt1 []) body plans (K M) Qt1 k]) body plans (K M) Qt1 (k + 1) (S1 r42_8 r50_9 r58_10 sa4_0 ta5_0 k21_1)) (by kernel_rfl) ?_
    refine (seg_loop Qt1 body plans (K M) _ (S1 r42_8 r50_9 r58_10 sa4_0 ta5_0 k21_1) (around_zlq _ _ (by kernel_rfl)) (by kernel_rfl) (by kernel_rfl)).trans ?_
    refine (g1 M _ r42_8 r50_9 r58_10 sa4_0 ta5_0 k21_1).trans ?_
    have x0 := (funext fun r42_8 => funext fun r50_9 => funext fun r58_10 => funext fun sa4_0 => funext fun ta5_0 => funext fun k21_1 => Eq.trans (b := lpAt (C8 M) (X M) M (zlq Qt1 []) body plans (K M) Qt1 k (S1 r42_8 r50_9 r58_10 sa4_0 ta5_0 k21_1)) (by kernel_rfl) (ih r42_8 r50_9 r58_10 sa4_0 ta5_0 k21_1) : (fun r42_8 r50_9 r58_10 sa4_0 ta5_0 k21_1 => zAt (C8 M) (X M) M (zlq Qt1 [lpAt (C8 M) (X M) M (zlq Qt1 []) body plans (K M) Qt1 k]) body plans (K M) Qt1 (S1 r42_8 r50_9 r58_10 sa4_0 ta5_0 k21_1)) = l1 M k)
    rw [x0]; rfl
theorem e1 (M : Nat) (r42_8 : (List UInt8) × Int) (r50_9 : (List UInt8) × Int) (r58_10 : (List UInt8) × Int) (sa4_0 : (List UInt8)) (ta5_0 : (List UInt8)) (k21_1 : Int) : zAt (C8 M) (X M) M (zlq Qt1 []) body plans (K M) Qt1 (S1 r42_8 r50_9 r58_10 sa4_0 ta5_0 k21_1) = l1 M M r42_8 r50_9 r58_10 sa4_0 ta5_0 k21_1 :=
  Eq.trans (b := lpAt (C8 M) (X M) M (zlq Qt1 []) body plans (K M) Qt1 M (S1 r42_8 r50_9 r58_10 sa4_0 ta5_0 k21_1)) (by kernel_rfl) (el1 M M r42_8 r50_9 r58_10 sa4_0 ta5_0 k21_1)
theorem run (M : Nat) (aa0_0 : (List api_Letter)) (pa1_0 : api_Paradigm) (na2_0 : Int) (inherenta3_0 : (List api_Feature)) (sa4_0 : (List UInt8)) (ta5_0 : (List UInt8)) : runF (rs := rs) (C8 M) (X M) M body Try.f8.ntmps 101 Try.f8.results.toList plans ps ex (aa0_0, pa1_0, na2_0, inherenta3_0, sa4_0, ta5_0) = pentaglotlaw10_ParadigmWraps M aa0_0 pa1_0 na2_0 inherenta3_0 sa4_0 ta5_0 := by
  refine Eq.trans (b := runC (C8 M) (X M) M body plans (start (argHs ps (aa0_0, pa1_0, na2_0, inherenta3_0, sa4_0, ta5_0)) Try.f8.ntmps 101) (K M)) (by kernel_rfl) ?_
  refine (zrun body plans _ (K M) (fun _ => none) fun _ => rfl).symm.trans ?_
  refine (g M _ aa0_0 pa1_0 na2_0 inherenta3_0 sa4_0 ta5_0).trans ?_
  have x0 := (funext fun r42_8 => funext fun r50_9 => funext fun r58_10 => funext fun sa4_0 => funext fun ta5_0 => funext fun k21_1 => Eq.trans (b := zAt (C8 M) (X M) M (zlq Qt1 []) body plans (K M) Qt1 (S1 r42_8 r50_9 r58_10 sa4_0 ta5_0 k21_1)) (by kernel_rfl) (e1 M r42_8 r50_9 r58_10 sa4_0 ta5_0 k21_1) : (fun r42_8 r50_9 r58_10 sa4_0 ta5_0 k21_1 => zAt (C8 M) (X M) M (fun _ => none) body plans (K M) Qt1 (S1 r42_8 r50_9 r58_10 sa4_0 ta5_0 k21_1)) = l1 M M)
  rw [x0]; rfl
noncomputable def sig (M : Nat) : Sig E := { ps := ps, rs := rs, ex := ex, fn := fun x => pentaglotlaw10_ParadigmWraps M x.1 x.2.1 x.2.2.1 x.2.2.2.1 x.2.2.2.2.1 x.2.2.2.2.2 }
theorem says (M : Nat) : callable Try.prog 8 = true ∧ ∀ x y, (sig M).fn x = some y → Says Try.prog 8 (sig M) x y := by
  refine ⟨by kernel_rfl, fun x y h => ?_⟩
  refine says_of_run (S := sig M) (C := C8 M) (X := X M) (M := M) (q := 101) (plans := plans) (COk_Try) (SigOk_C8 M) (ItOk_C8 M) (by kernel_rfl) (callOk_ext COk_Try (SigOk_C8 M) (ItOk_C8 M) (by kernel_rfl) inl_ok.ok (RSigOk_C8 M) M 1) (Try.func8) (body := body) (by kernel_rfl) (by kernel_rfl) ?_
  obtain ⟨aa0_0, pa1_0, na2_0, inherenta3_0, sa4_0, ta5_0⟩ := x
  exact (run M aa0_0 pa1_0 na2_0 inherenta3_0 sa4_0 ta5_0).trans h
end pentaglotlaw10_ParadigmWraps
end Go.Ai.Par
end
namespace Go.Ai.Par
open Go Go.Ai

theorem pentaglotlaw10_ParadigmWraps_plain (a : List api_Letter) (p : api_Paradigm) (n : Int) (inherent : List api_Feature) (s : List UInt8) (t : List UInt8) (h : Z8 (.sl (.st .api_Letter)) a + (Z8 (.st .api_Paradigm) p + (Z8 (.int .i64) n + (Z8 (.sl (.st .api_Feature)) inherent + (Z8 .str s + (Z8 .str t))))) ≤ 1048576) : pentaglotlaw10_ParadigmWraps 2097152 a p n inherent s t = some true := by
  have hM : 1048576 < 2097152 := by omega
  have hM2 : 2097152 ≤ 1099511627776 := by omega
  have ha := z8_letters (B := 1048576) (by omega) (a := a) (by omega)
  obtain ⟨hp, hsz⟩ := z8_par (B := 1048576) (by omega) (p := p) (by omega)
  obtain ⟨hir, _⟩ := z8_rec (B := 1048576) (by omega) (r := inherent) (by omega)
  have hs1 : Z8 .str s = s.length + 1 := rfl
  have ht1 : Z8 .str t = t.length + 1 := rfl
  have hps : szS p.fSlots + 3 ≤ Z8 (.st .api_Paradigm) p := (z8_par (B := Z8 (.st .api_Paradigm) p) (by omega) (p := p) (Nat.le_refl _)).2
  unfold pentaglotlaw10_ParadigmWraps pentaglotlaw10_ParadigmWraps.s
  rw [awake_eq hM hM2, paradigm_Cell_eq hM hp.dims, law10_valid_eq hM ha hp]
  cases hv : okB 2097152 a p with
  | false => rfl
  | true =>
    obtain ⟨v1, v2, v3, v4, v5⟩ := okB_facts hv
    simp only [Option.bind_some, Bool.not_true, cond_false]
    have hcl := cells_length p.fDimensions
    by_cases h0 : 0 ≤ n ∧ n < (count p.fDimensions : Int)
    · have e : cellS p.fDimensions n = ((cells p.fDimensions).getD n.toNat default, true) := by unfold cellS; rw [cpos2 h0.1 h0.2]
      have hn : n.toNat < (cells p.fDimensions).length := by rw [hcl]; omega
      obtain ⟨g1, g2, g3⟩ := cells_mem (getD_mem hn)
      rw [e]
      generalize (cells p.fDimensions).getD n.toNat default = cell at *
      simp only [Bool.not_true, cond_false]
      have hu : ∀ f : List UInt8, f.length + szS p.fSlots < 2097152 → paradigm_Underlying 2097152 p f inherent cell = some (underS p.fDimensions p.fSlots f inherent cell) := fun f hf => paradigm_Underlying_eq hM hM2 hp.dims hp.slots v2 (by omega) hir hf
      rw [hu [] (by simp; omega), hu s (by omega), hu t (by omega)]
      simp only [Option.bind_some]
      have hun : ∀ f : List UInt8, (underS p.fDimensions p.fSlots f inherent cell).2 = 0 → ∃ m, mergeS p.fDimensions cell inherent = some m ∧ (underS p.fDimensions p.fSlots f inherent cell).1 = formS m p.fSlots f := by
        intro f hf
        unfold underS at hf ⊢
        cases hm : mergeS p.fDimensions cell inherent with
        | none => rw [hm] at hf; simp at hf
        | some m =>
          rw [hm] at hf
          refine ⟨m, rfl, ?_⟩
          simp only at hf ⊢
          by_cases h40 : (40 : Int) < (runes (formS m p.fSlots f) : Int)
          · rw [cpos h40] at hf; simp at hf
          · rw [cneg h40]
      by_cases c1 : (underS p.fDimensions p.fSlots [] inherent cell).2 = 0
      · by_cases c2 : (underS p.fDimensions p.fSlots s inherent cell).2 = 0
        · by_cases c3 : (underS p.fDimensions p.fSlots t inherent cell).2 = 0
          · simp only [c1, c2, c3, decide_true, Bool.not_true, cond_false]
            obtain ⟨m, hm, e1⟩ := hun [] c1
            obtain ⟨m2, hm2, e2⟩ := hun s c2
            obtain ⟨m3, hm3, e3⟩ := hun t c3
            rw [hm] at hm2 hm3
            cases hm2; cases hm3
            have f1 := formS_wrap m p.fSlots []
            have f2 := formS_wrap m p.fSlots s
            have f3 := formS_wrap m p.fSlots t
            rw [← e1] at f1; rw [← e2] at f2; rw [← e3] at f3
            have hlen := formS_length m p.fSlots []
            rw [← e1] at hlen
            generalize underS p.fDimensions p.fSlots [] inherent cell = u1 at *
            generalize underS p.fDimensions p.fSlots s inherent cell = u2 at *
            generalize underS p.fDimensions p.fSlots t inherent cell = u3 at *
            rw [List.append_nil] at f1
            have key : ∀ (d k i : Nat), i + d = (preS m p.fSlots).length → d < k → pentaglotlaw10_ParadigmWraps.l1 2097152 k u1 u2 u3 s t i = some true := by
              have hl1 : u1.1.length = (preS m p.fSlots).length + (sufS m p.fSlots).length := by rw [f1, List.length_append]
              simp only [List.length_nil] at hlen
              intro d
              induction d with
              | zero =>
                intro k i hi hk
                obtain ⟨k, rfl⟩ := Nat.exists_eq_succ_of_ne_zero (by omega : k ≠ 0)
                have hi : i = (preS m p.fSlots).length := by omega
                have ht : u1.1.take i = preS m p.fSlots := by rw [f1, hi, List.take_left]
                have hd : u1.1.drop i = sufS m p.fSlots := by rw [f1, hi, List.drop_left]
                simp (disch := first | omega | (simp only [len, len0]; omega)) only [Nat.succ_eq_add_one, pentaglotlaw10_ParadigmWraps.l1, pentaglotlaw10_ParadigmWraps.s1, ↓cpos, ↓cpos2]
                have q1 : u2.1 = u1.1.take (i : Int).toNat ++ s ++ u1.1.drop (i : Int).toNat := by rw [Int.toNat_natCast, ht, hd]; exact f2
                have q2 : u3.1 = u1.1.take (i : Int).toNat ++ t ++ u1.1.drop (i : Int).toNat := by rw [Int.toNat_natCast, ht, hd]; exact f3
                rw [cpos q1, cpos q2]
              | succ d ih =>
                intro k i hi hk
                obtain ⟨k, rfl⟩ := Nat.exists_eq_succ_of_ne_zero (by omega : k ≠ 0)
                have ih' := ih k (i + 1) (by omega) (by omega)
                simp (disch := first | omega | (simp only [len, len0]; omega)) only [Nat.succ_eq_add_one, pentaglotlaw10_ParadigmWraps.l1, pentaglotlaw10_ParadigmWraps.s1, ↓cpos, ↓cpos2, Int.toNat_natCast, wsucc, ih']
                cases decide (u2.1 = u1.1.take i ++ s ++ u1.1.drop i) <;> cases decide (u3.1 = u1.1.take i ++ t ++ u1.1.drop i) <;> rfl
            have hpl : (preS m p.fSlots).length ≤ u1.1.length := by rw [f1, List.length_append]; omega
            simp only [List.length_nil] at hlen
            exact key (preS m p.fSlots).length 2097152 0 (by omega) (by omega)
          · simp [c1, c2, c3]
        · simp [c1, c2]
      · simp [c1]
    · have e : cellS p.fDimensions n = ([], false) := by unfold cellS; rw [cneg2 h0]
      rw [e]
      rfl

theorem pentaglotlaw10_ParadigmWraps_law (x : Tup E.Γ pentaglotlaw10_ParadigmWraps.ps) (_ : okTup (okD E 8) pentaglotlaw10_ParadigmWraps.ps x) (h : szTup (szD E 8) pentaglotlaw10_ParadigmWraps.ps x ≤ 1048576) : (pentaglotlaw10_ParadigmWraps.sig 2097152).fn x = some true := by
  obtain ⟨a, p, n, inherent, s, t⟩ := x
  exact pentaglotlaw10_ParadigmWraps_plain a p n inherent s t h

end Go.Ai.Par
noncomputable section
namespace Go.Proofs.Ytejbamobkncfhaa
open Go Go.Ai Go.Ai.Par Go.RowKit Go.ChangeShapes
set_option maxRecDepth 100000
namespace ParadigmWraps

theorem bulkOk {H : Type} : BulkOk (H := H) Rows.uptoBulk Rows.uptoBulkAll where
  str := fun l => by simp [Rows.uptoBulk]
  lit := fun l => by cases l <;> simp [Rows.uptoBulk]
  nil := by simp [Rows.uptoBulk]
  slice := fun xs ys => by simp only [Rows.uptoBulk]; omega
  agg := fun xs => by simp only [Rows.uptoBulk]; omega
  cons := fun x xs => by simp only [Rows.uptoBulkAll]; omega

theorem bound {H : Type} {l : List (DataW H)} (hk : Rows.uptoSmall H l = true) : Rows.uptoBulkAll l ≤ 1048576 := of_decide_eq_true hk
def reads : List Nat := [2, 3, 9, 21, 113, 22, 23, 24, 26, 29, 31, 57, 58, 67, 69, 71, 115]
theorem own : ownKnob Try.prog.godebug = none := by kernel_rfl
theorem laid : laidOutB Try.prog = true := by kernel_rfl

theorem lifted (os : Os) (started : os.Started) (H : Type) (enc : TypeId × Value → H) (F : Stop.Interp) :
    ReturnsInHanded {} Try.checked os 8 .any ((Rows.OpenSpec.upto Rows.paradigmWrapsSpec).pre6 enc Try.prog Try.f8 Rows.paradigmWrapsUptoRow.domain false) (((Rows.OpenSpec.upto Rows.paradigmWrapsSpec).at F).post enc Try.prog Try.f8 false true false false) := by
  refine returnsInHanded_of_cond (C := Try.checked) (s := Rows.OpenSpec.upto Rows.paradigmWrapsSpec) (k := Rows.uptoSmall) rfl own started (by kernel_rfl) Try.func8
    (OpenSpec.witness (enc := enc) (C := Try.checked) (s := Rows.OpenSpec.upto Rows.paradigmWrapsSpec) (k := Rows.uptoSmall) rfl false ⟨#[], #[.slice none 0 0, .agg #[.string ⟨#[]⟩, .slice none 0 0, .slice none 0 0], .int .i64 0, .slice none 0 0, .string ⟨#[]⟩, .string ⟨#[]⟩], []⟩ 8 (by kernel_rfl) (by kernel_rfl) (by kernel_rfl)
      (x := ([.nil, .agg [.lit (.string []), .nil, .nil], .lit (.int .i64 0), .nil, .lit (.string []), .lit (.string [])], [], [])) (by kernel_rfl) rfl (by kernel_rfl)) ?_
  intro W base args ds gs before hval hW _ hk _
  exact law_calls (COk_Try (sig := fun _ => none) (it := fun _ => none) (nt := 0) (r1 := []) (r2 := [])) (S := reads) (by kernel_rfl) (szD_ok 8) (okD_ok 8) laid (ps := pentaglotlaw10_ParadigmWraps.ps) (by kernel_rfl) (by kernel_rfl) (tb := 4) rfl (by kernel_rfl) (F := (pentaglotlaw10_ParadigmWraps.sig 2097152).fn)
    (pentaglotlaw10_ParadigmWraps.says 2097152).2 pentaglotlaw10_ParadigmWraps_law rfl (fun ds h => match ds, h with | [_, _, _, _, _, _], _ => rfl) hval hW bulkOk (bound hk)

theorem said : Rows.ParadigmWrapsUptoSaid :=
  OpenClaim.holds_of_cond 8 Try.f8 rfl rfl rfl rfl rfl rfl rfl ⟨rfl, rfl, rfl, rfl, rfl⟩ rfl rfl rfl rfl rfl (by kernel_rfl) Try.func8 (by kernel_rfl)
    (of_decide_eq_true (by kernel_rfl)) (by unfold Func.isWrapper; first | (rw [if_pos (by decide +kernel)]; kernel_rfl) | (rw [if_neg (by decide +kernel)]; exact ⟨rfl, rfl⟩))
    (fun os started H enc _ F => lifted os started H enc F)

end ParadigmWraps
end Go.Proofs.Ytejbamobkncfhaa
end
