/- The law ParadigmShadows of the chapter on paradigms: whatever it is called with, it answers true, where what it reads is of bulk at most 1048576. -/
import Derived.Test.YtejbamobkncfhaaA0
import Derived.Test.YtejbamobkncfhaaA1
import Derived.Test.YtejbamobkncfhaaA2
import Derived.Test.YtejbamobkncfhaaA3
import Derived.Test.YtejbamobkncfhaaA4
import Derived.Test.YtejbamobkncfhaaA5
import Derived.Test.YtejbamobkncfhaaRows
import Derived.JoinedCond
import Derived.ProofKit
set_option linter.unusedVariables false
set_option linter.unusedSectionVars false
noncomputable section
namespace Go.Ai.Par
open Go Go.Ai Go.Proofs
noncomputable def sigs11 (M : Nat) : List (Nat × Sig E) := [(12, pentaglotlaw10_awake.sig M), (13, pentaglotlaw10_valid.sig M), (15, paradigm_Cell.sig M), (20, paradigm_Merge.sig M), (23, paradigm_Chosen.sig M), (25, paradigm_Underlying.sig M), (30, pentaglotref10_Valid.sig M)]
noncomputable def rs11 (M : Nat) : List (Nat × Sig E) := []
noncomputable def its11 (M : Nat) : List (Nat × It E) := []
theorem sigs_ok11 (M : Nat) : SigsOk Try.prog (sigs11 M) := SigsOk.cons (pentaglotlaw10_awake.says M) (SigsOk.cons (pentaglotlaw10_valid.says M) (SigsOk.cons (paradigm_Cell.says M) (SigsOk.cons (paradigm_Merge.says M) (SigsOk.cons (paradigm_Chosen.says M) (SigsOk.cons (paradigm_Underlying.says M) (SigsOk.cons (pentaglotref10_Valid.says M) (SigsOk.nil)))))))
theorem rs_ok11 (M : Nat) : SigsOk Try.prog (rs11 M) := SigsOk.nil
theorem its_ok11 (M : Nat) : ItsOk Try.prog (its11 M) := ItsOk.nil
noncomputable def C11 (M : Nat) : Ctx E := { ti := fun t => tisE.lookup t, sig := fun f => (sigs11 M).lookup f, it := fun f => (its11 M).lookup f, nt := 147, rowAt := [50, 53, 71, 73, 76, 93], frzAt := [95, 107] }
theorem SigOk_C11 (M : Nat) : SigOk Try.prog (C11 M) := sigs_ok11 M
theorem RSigOk_C11 (M : Nat) : SigOk Try.prog ({ ti := fun _ => none, sig := fun f => (rs11 M).lookup f } : Ctx E) := rs_ok11 M
theorem ItOk_C11 (M : Nat) : ItOk Try.prog (C11 M) := (its_ok11 M).ok
namespace pentaglotlaw10_ParadigmShadows
noncomputable def plans : List (Option (Plan Nm)) := [none, none, none, none, none, none, none, none, none, none, none, none, none, none, none, none, none, none, none, none, none, none]
noncomputable abbrev body : Code := bodyOf Try.f11
def ps : List (Ty Nm) := [(.sl (.st .api_Letter)), (.st .api_Paradigm), (.int .i64), (.st .api_Affix), .str, (.sl (.st .api_Feature))]
def rs : List (Ty Nm) := [.bool]
def ex : List (Option Nat) := [none]
noncomputable def inl : List (Nat × Nat × Nat × Inl Nm) := []
theorem inl_ok : InlsOk Try.prog inl := InlsOk.nil
noncomputable def X (M : Nat) : Ext E Bool := extOf (C11 M) (inlOf inl) (fun f => (rs11 M).lookup f) (fun _ _ _ => none) noX M 1
abbrev Rt := Bool
noncomputable def H (M : Nat) : Hd E Rt := hd0 (X M)
theorem Hok (M : Nat) : (H M).ok (C11 M) M := hd0_ok _
abbrev Zt := List Dir → St E → Option Rt
abbrev Ut := St E → Option Rt
noncomputable def s (M : Nat) (aa0_0 : (List api_Letter)) (pa1_0 : api_Paradigm) (na2_0 : Int) (morea3_0 : api_Affix) (stema4_0 : (List UInt8)) (inherenta5_0 : (List api_Feature)) : Option Rt :=
  Option.bind (pentaglotlaw10_awake M) fun r23_2 =>
  cond (!r23_2)
   (some false)
   (Option.bind (paradigm_Cell M pa1_0 na2_0) fun r28_3 =>
    Option.bind (pentaglotlaw10_valid M aa0_0 pa1_0) fun r33_7 =>
    cond (!r33_7)
     (some true)
     (cond (!r28_3.2)
       (some true)
       (cond (decide ((pa1_0.fSlots.length : Int) = 0))
         (some true)
         (cond (decide (([] : List (List api_Affix)).length + pa1_0.fSlots.length ≤ lim))
           (cond (decide (0 ≤ IntKind.i64.wrap ((pa1_0.fSlots.length : Int) - 1)) && decide (IntKind.i64.wrap ((pa1_0.fSlots.length : Int) - 1) < (pa1_0.fSlots.length : Int)))
             (cond (decide (([] : List api_Affix).length + (pa1_0.fSlots.getD (IntKind.i64.wrap ((pa1_0.fSlots.length : Int) - 1)).toNat default).length ≤ lim))
               (cond (decide (([] ++ (pa1_0.fSlots.getD (IntKind.i64.wrap ((pa1_0.fSlots.length : Int) - 1)).toNat default) : List api_Affix).length + ([api_Affix.mk [] [] morea3_0.fSuffix, morea3_0] : List api_Affix).length ≤ lim))
                 (cond (decide (0 ≤ IntKind.i64.wrap ((pa1_0.fSlots.length : Int) - 1)) && decide (IntKind.i64.wrap ((pa1_0.fSlots.length : Int) - 1) < ((([] : List (List api_Affix)) ++ pa1_0.fSlots : List (List api_Affix)).length : Int)))
                   (cond (decide (([] : List (List api_Affix)).length + pa1_0.fSlots.length ≤ lim))
                     (cond (decide (0 ≤ IntKind.i64.wrap ((pa1_0.fSlots.length : Int) - 1)) && decide (IntKind.i64.wrap ((pa1_0.fSlots.length : Int) - 1) < (pa1_0.fSlots.length : Int)))
                       (cond (decide (([] : List api_Affix).length + (pa1_0.fSlots.getD (IntKind.i64.wrap ((pa1_0.fSlots.length : Int) - 1)).toNat default).length ≤ lim))
                         (cond (decide (([] ++ (pa1_0.fSlots.getD (IntKind.i64.wrap ((pa1_0.fSlots.length : Int) - 1)).toNat default) : List api_Affix).length + ([api_Affix.mk [] [] morea3_0.fSuffix] : List api_Affix).length ≤ lim))
                           (cond (decide (0 ≤ IntKind.i64.wrap ((pa1_0.fSlots.length : Int) - 1)) && decide (IntKind.i64.wrap ((pa1_0.fSlots.length : Int) - 1) < ((([] : List (List api_Affix)) ++ pa1_0.fSlots : List (List api_Affix)).length : Int)))
                             (Option.bind (pentaglotref10_Valid M aa0_0 (api_Paradigm.mk pa1_0.fName pa1_0.fDimensions ((([] : List (List api_Affix)) ++ pa1_0.fSlots : List (List api_Affix)).set (IntKind.i64.wrap ((pa1_0.fSlots.length : Int) - 1)).toNat (([] ++ (pa1_0.fSlots.getD (IntKind.i64.wrap ((pa1_0.fSlots.length : Int) - 1)).toNat default)) ++ ([api_Affix.mk [] [] morea3_0.fSuffix, morea3_0]))))) fun r96_9 =>
                              cond (!r96_9)
                               (some true)
                               (Option.bind (paradigm_Underlying M (api_Paradigm.mk pa1_0.fName pa1_0.fDimensions ((([] : List (List api_Affix)) ++ pa1_0.fSlots : List (List api_Affix)).set (IntKind.i64.wrap ((pa1_0.fSlots.length : Int) - 1)).toNat (([] ++ (pa1_0.fSlots.getD (IntKind.i64.wrap ((pa1_0.fSlots.length : Int) - 1)).toNat default)) ++ ([api_Affix.mk [] [] morea3_0.fSuffix, morea3_0])))) stema4_0 inherenta5_0 r28_3.1) fun r103_10 =>
                                Option.bind (paradigm_Underlying M (api_Paradigm.mk pa1_0.fName pa1_0.fDimensions ((([] : List (List api_Affix)) ++ pa1_0.fSlots : List (List api_Affix)).set (IntKind.i64.wrap ((pa1_0.fSlots.length : Int) - 1)).toNat (([] ++ (pa1_0.fSlots.getD (IntKind.i64.wrap ((pa1_0.fSlots.length : Int) - 1)).toNat default)) ++ ([api_Affix.mk [] [] morea3_0.fSuffix])))) stema4_0 inherenta5_0 r28_3.1) fun r111_11 =>
                                Option.bind (paradigm_Merge M (api_Paradigm.mk pa1_0.fName pa1_0.fDimensions ((([] : List (List api_Affix)) ++ pa1_0.fSlots : List (List api_Affix)).set (IntKind.i64.wrap ((pa1_0.fSlots.length : Int) - 1)).toNat (([] ++ (pa1_0.fSlots.getD (IntKind.i64.wrap ((pa1_0.fSlots.length : Int) - 1)).toNat default)) ++ ([api_Affix.mk [] [] morea3_0.fSuffix, morea3_0])))) r28_3.1 inherenta5_0) fun r118_12 =>
                                cond (decide (r103_10.1 = r111_11.1))
                                 (cond (decide (r103_10.2 = r111_11.2))
                                   (cond (!r118_12.2)
                                     (some true)
                                     (Option.bind (paradigm_Chosen M (api_Paradigm.mk pa1_0.fName pa1_0.fDimensions ((([] : List (List api_Affix)) ++ pa1_0.fSlots : List (List api_Affix)).set (IntKind.i64.wrap ((pa1_0.fSlots.length : Int) - 1)).toNat (([] ++ (pa1_0.fSlots.getD (IntKind.i64.wrap ((pa1_0.fSlots.length : Int) - 1)).toNat default)) ++ ([api_Affix.mk [] [] morea3_0.fSuffix, morea3_0])))) (IntKind.i64.wrap ((pa1_0.fSlots.length : Int) - 1)) r118_12.1) fun r136_13 =>
                                      cond (decide (0 ≤ IntKind.i64.wrap ((pa1_0.fSlots.length : Int) - 1)) && decide (IntKind.i64.wrap ((pa1_0.fSlots.length : Int) - 1) < (((([] : List (List api_Affix)) ++ pa1_0.fSlots : List (List api_Affix)).set (IntKind.i64.wrap ((pa1_0.fSlots.length : Int) - 1)).toNat (([] ++ (pa1_0.fSlots.getD (IntKind.i64.wrap ((pa1_0.fSlots.length : Int) - 1)).toNat default)) ++ ([api_Affix.mk [] [] morea3_0.fSuffix, morea3_0]))).length : Int)))
                                       (some (!decide (r136_13 = (IntKind.i64.wrap (((((([] : List (List api_Affix)) ++ pa1_0.fSlots : List (List api_Affix)).set (IntKind.i64.wrap ((pa1_0.fSlots.length : Int) - 1)).toNat (([] ++ (pa1_0.fSlots.getD (IntKind.i64.wrap ((pa1_0.fSlots.length : Int) - 1)).toNat default)) ++ ([api_Affix.mk [] [] morea3_0.fSuffix, morea3_0]))).getD (IntKind.i64.wrap ((pa1_0.fSlots.length : Int) - 1)).toNat default).length : Int) - 1)))))
                                       none))
                                   (some false))
                                 (some false)))
                             none)
                           none)
                         none)
                       none)
                     none)
                   none)
                 none)
               none)
             none)
           none))))
end pentaglotlaw10_ParadigmShadows
noncomputable def pentaglotlaw10_ParadigmShadows (M : Nat) (aa0_0 : (List api_Letter)) (pa1_0 : api_Paradigm) (na2_0 : Int) (morea3_0 : api_Affix) (stema4_0 : (List UInt8)) (inherenta5_0 : (List api_Feature)) : Option Bool :=
  pentaglotlaw10_ParadigmShadows.s M aa0_0 pa1_0 na2_0 morea3_0 stema4_0 inherenta5_0
namespace pentaglotlaw10_ParadigmShadows
noncomputable def K (M : Nat) : Cont E Bool := kRet (C11 M) Try.f11.results.toList rs ex
set_option maxRecDepth 100000
theorem g (M : Nat) (Z : Zt) (aa0_0 : (List api_Letter)) (pa1_0 : api_Paradigm) (na2_0 : Int) (morea3_0 : api_Affix) (stema4_0 : (List UInt8)) (inherenta5_0 : (List api_Feature)) : runZ (C11 M) (extZ (C11 M) (H M) 0) Z body plans (start (argHs ps (aa0_0, pa1_0, na2_0, morea3_0, stema4_0, inherenta5_0)) Try.f11.ntmps 147) (K M) = s M aa0_0 pa1_0 na2_0 morea3_0 stema4_0 inherenta5_0 := by kernel_rfl
theorem run (M : Nat) (aa0_0 : (List api_Letter)) (pa1_0 : api_Paradigm) (na2_0 : Int) (morea3_0 : api_Affix) (stema4_0 : (List UInt8)) (inherenta5_0 : (List api_Feature)) : runF (rs := rs) (C11 M) (X M) M body Try.f11.ntmps 147 Try.f11.results.toList plans ps ex (aa0_0, pa1_0, na2_0, morea3_0, stema4_0, inherenta5_0) = pentaglotlaw10_ParadigmShadows M aa0_0 pa1_0 na2_0 morea3_0 stema4_0 inherenta5_0 := by
  refine Eq.trans (b := runC (C11 M) (X M) M body plans (start (argHs ps (aa0_0, pa1_0, na2_0, morea3_0, stema4_0, inherenta5_0)) Try.f11.ntmps 147) (K M)) (by kernel_rfl) ?_
  refine (zrun (Hok M) 0 body plans _ (K M) (fun _ => none) fun _ => rfl).symm.trans ?_
  refine (g M _ aa0_0 pa1_0 na2_0 morea3_0 stema4_0 inherenta5_0).trans ?_
  rfl
noncomputable def sig (M : Nat) : Sig E := { ps := ps, rs := rs, ex := ex, fn := fun x => pentaglotlaw10_ParadigmShadows M x.1 x.2.1 x.2.2.1 x.2.2.2.1 x.2.2.2.2.1 x.2.2.2.2.2 }
theorem says (M : Nat) : callable Try.prog 11 = true ∧ ∀ x y, (sig M).fn x = some y → Says Try.prog 11 (sig M) x y := by
  refine ⟨by kernel_rfl, fun x y h => ?_⟩
  refine says_of_run (S := sig M) (C := C11 M) (X := X M) (M := M) (q := 147) (plans := plans) (COk_Try) (SigOk_C11 M) (ItOk_C11 M) (by kernel_rfl) (callOk_ext COk_Try (SigOk_C11 M) (ItOk_C11 M) (by kernel_rfl) inl_ok.ok (RSigOk_C11 M) (fun _ => callOk_none) M 1) (Try.func11) (body := body) (by kernel_rfl) (by kernel_rfl) ?_
  obtain ⟨aa0_0, pa1_0, na2_0, morea3_0, stema4_0, inherenta5_0⟩ := x
  exact (run M aa0_0 pa1_0 na2_0 morea3_0 stema4_0 inherenta5_0).trans h
end pentaglotlaw10_ParadigmShadows
end Go.Ai.Par
end
namespace Go.Ai.Par
open Go Go.Ai

/-! ### A slot to which is added -/
theorem szS_set : ∀ (ss : List (List api_Affix)) (n : Nat) (t : List api_Affix), szS (ss.set n t) ≤ szS ss + szA t
  | [], _, _ => by simp [szS]
  | s :: ss, 0, t => by simp [szS]; omega
  | s :: ss, n + 1, t => by
    have := szS_set ss n t
    simp only [szS, List.set_cons_succ, List.map_cons, List.sum_cons] at this ⊢
    omega

theorem szA_le_szS {ss : List (List api_Affix)} {s : List api_Affix} (h : s ∈ ss) : szA s ≤ szS ss := sum_mem szA h

theorem formS_set (m : List api_Feature) {t t' : List api_Affix} (h : pickA m t = pickA m t') : ∀ (ss : List (List api_Affix)) (n : Nat) (f : List UInt8), formS m (ss.set n t) f = formS m (ss.set n t') f
  | [], _, _ => rfl
  | s :: ss, 0, f => by simp only [List.set_cons_zero, formS, wrapA, h]
  | s :: ss, n + 1, f => by simp only [List.set_cons_succ, formS]; exact formS_set m h ss n _

theorem pick_more (m : List api_Feature) (S : List api_Affix) (u : List UInt8) (x : api_Affix) : pickA m (S ++ [api_Affix.mk [] [] u, x]) = pickA m (S ++ [api_Affix.mk [] [] u]) := by
  unfold pickA
  rw [List.find?_append, List.find?_append]
  rfl

theorem fst_more {α : Type} (p : α → Bool) (S : List α) (e x : α) (he : p e = true) : fstIdx p (S ++ [e, x]) 0 ≤ (S.length : Int) := by
  rcases fstIdx_cases p (S ++ [e, x]) 0 with ⟨h, _⟩ | ⟨j, hj, h1, h2, h3, _⟩
  · rw [List.any_eq_false] at h
    exact absurd he (h e (by simp))
  · rw [h3]
    rcases Nat.lt_or_ge S.length j with hlt | hge
    · have := h2 S.length hlt
      rw [List.getElem_append_right (Nat.le_refl _)] at this
      simp [he] at this
    · omega

theorem okSlots_set {ss : List (List api_Affix)} (h : okSlots ss) (n : Nat) {t : List api_Affix} (ht : t.length ≤ 1048576 ∧ ∀ x ∈ t, okAffix x) : okSlots (ss.set n t) := by
  refine ⟨by rw [List.length_set]; exact h.1, fun s hs => ?_⟩
  rcases List.mem_or_eq_of_mem_set hs with hs | rfl
  · exact h.2 s hs
  · exact ht

theorem ascSlots_set {ss : List (List api_Affix)} (h : ascSlots ss) (n : Nat) {t : List api_Affix} (ht : ∀ x ∈ t, Asc x.fWhen) : ascSlots (ss.set n t) := by
  intro s hs
  rcases List.mem_or_eq_of_mem_set hs with hs | rfl
  · exact h s hs
  · exact ht

theorem pentaglotlaw10_ParadigmShadows_plain (a : List api_Letter) (p : api_Paradigm) (n : Int) (more : api_Affix) (stem : List UInt8) (inherent : List api_Feature) (h : Z8 (.sl (.st .api_Letter)) a + (Z8 (.st .api_Paradigm) p + (Z8 (.int .i64) n + (Z8 (.st .api_Affix) more + (Z8 .str stem + (Z8 (.sl (.st .api_Feature)) inherent))))) ≤ 1048576) : pentaglotlaw10_ParadigmShadows 2097152 a p n more stem inherent = some true := by
  have hM : 1048576 < 2097152 := by omega
  have hM2 : 2097152 ≤ 1099511627776 := by omega
  have ha := z8_letters (B := 1048576) (by omega) (a := a) (by omega)
  obtain ⟨hp, hsz⟩ := z8_par (B := 1048576) (by omega) (p := p) (by omega)
  obtain ⟨hir, _⟩ := z8_rec (B := 1048576) (by omega) (r := inherent) (by omega)
  have hmore := z8_affix (B := 1048576) (by omega) (x := more) (by omega)
  have hs1 : Z8 .str stem = stem.length + 1 := rfl
  have hps : szS p.fSlots + 3 ≤ Z8 (.st .api_Paradigm) p := (z8_par (B := Z8 (.st .api_Paradigm) p) (by omega) (p := p) (Nat.le_refl _)).2
  have hms : more.fPrefix.length + more.fSuffix.length + 2 ≤ Z8 (.st .api_Affix) more := by
    have e : Z8 (.st .api_Affix) more = Z 7 (.sl (.st .api_Feature)) more.fWhen + ((more.fPrefix.length + 1) + (more.fSuffix.length + 1)) + 1 := rfl
    omega
  unfold pentaglotlaw10_ParadigmShadows pentaglotlaw10_ParadigmShadows.s
  rw [awake_eq hM hM2, paradigm_Cell_eq hM hp.dims, law10_valid_eq hM ha hp]
  cases hv : okB 2097152 a p with
  | false => rfl
  | true =>
    obtain ⟨v1, v2, v3, v4, v5⟩ := okB_facts hv
    simp only [Option.bind_some, Bool.not_true, cond_false]
    have hcl := cells_length p.fDimensions
    by_cases h0 : 0 ≤ n ∧ n < (count p.fDimensions : Int)
    · have e : cellS p.fDimensions n = ((cells p.fDimensions).getD n.toNat default, true) := by unfold cellS; rw [cpos2 h0.1 h0.2]
      have hn : n.toNat < (cells p.fDimensions).length := by rw [hcl]; omega
      obtain ⟨g1, g2, g3⟩ := cells_mem (getD_mem hn)
      rw [e]
      generalize (cells p.fDimensions).getD n.toNat default = cell at *
      simp only [Bool.not_true, cond_false]
      by_cases hl0 : p.fSlots.length = 0
      · rw [cpos (by omega)]
      · obtain ⟨l, hl⟩ := Nat.exists_eq_succ_of_ne_zero hl0
        have hw : IntKind.i64.wrap ((p.fSlots.length : Int) - 1) = (l : Int) := by rw [wrap64] <;> omega
        have hS : p.fSlots.getD l default ∈ p.fSlots := getD_mem (by omega)
        have hS6 := v5 _ hS
        rw [cneg (by omega)]
        simp only [hw, Int.toNat_natCast, List.nil_append]
        generalize hSd : p.fSlots.getD l default = S at *
        have hSl : S.length ≤ 6 := hS6
        have hSA : szA S ≤ szS p.fSlots := szA_le_szS hS
        obtain ⟨hSo, hSx⟩ := hp.slots.2 S hS
        have hoke : okAffix (api_Affix.mk [] [] more.fSuffix) := ⟨⟨by simp, fun f hf => by cases hf⟩, by simp, by simp, hmore.2.2.2⟩
        have hA2 : szA (S ++ [api_Affix.mk [] [] more.fSuffix, more]) = szA S + (more.fSuffix.length + (more.fPrefix.length + more.fSuffix.length)) := by simp [szA]
        have hA1 : szA (S ++ [api_Affix.mk [] [] more.fSuffix]) = szA S + more.fSuffix.length := by simp [szA]
        have hlt : l < p.fSlots.length := by omega
        simp (disch := first | omega | (simp only [len, len0]; omega)) only [↓cpos, ↓cpos2]
        have hT : S.length + 2 ≤ 1048576 ∧ ∀ x ∈ S ++ [api_Affix.mk [] [] more.fSuffix, more], okAffix x := ⟨by omega, fun x hx => by
          rcases List.mem_append.1 hx with hx | hx
          · exact hSx x hx
          · rcases List.mem_cons.1 hx with rfl | hx
            · exact hoke
            · rw [List.mem_singleton.1 hx]; exact hmore⟩
        have hQo : okSlots (p.fSlots.set l (S ++ [api_Affix.mk [] [] more.fSuffix, more])) := okSlots_set hp.slots l ⟨by simpa using hT.1, hT.2⟩
        have hRo : okSlots (p.fSlots.set l (S ++ [api_Affix.mk [] [] more.fSuffix])) := okSlots_set hp.slots l ⟨by simp; omega, fun x hx => hT.2 x (by
          rcases List.mem_append.1 hx with hx | hx
          · exact List.mem_append_left _ hx
          · rw [List.mem_singleton.1 hx]; simp)⟩
        have hRa : ascSlots (p.fSlots.set l (S ++ [api_Affix.mk [] [] more.fSuffix])) := ascSlots_set v2 l fun x hx => by
          rcases List.mem_append.1 hx with hx | hx
          · exact v2 S hS x hx
          · rw [List.mem_singleton.1 hx]; exact List.Pairwise.nil
        have hQz := szS_set p.fSlots l (S ++ [api_Affix.mk [] [] more.fSuffix, more])
        have hRz := szS_set p.fSlots l (S ++ [api_Affix.mk [] [] more.fSuffix])
        have hQg : (p.fSlots.set l (S ++ [api_Affix.mk [] [] more.fSuffix, more])).getD l default = S ++ [api_Affix.mk [] [] more.fSuffix, more] := by
          rw [List.getD_eq_getElem?_getD, List.getElem?_set_self hlt]; rfl
        have hQl : (p.fSlots.set l (S ++ [api_Affix.mk [] [] more.fSuffix, more])).length = p.fSlots.length := List.length_set
        rw [ref10_Valid_eq hM ha (p := api_Paradigm.mk p.fName p.fDimensions (p.fSlots.set l (S ++ [api_Affix.mk [] [] more.fSuffix, more]))) hp.name hp.dims hQo]
        cases hvq : validB 2097152 a (api_Paradigm.mk p.fName p.fDimensions (p.fSlots.set l (S ++ [api_Affix.mk [] [] more.fSuffix, more]))) with
        | false => rfl
        | true =>
          obtain ⟨w1, w2, w3, w4⟩ := validB_facts hvq
          have hund : ∀ ss, okSlots ss → ascSlots ss → stem.length + szS ss < 2097152 → paradigm_Underlying 2097152 (api_Paradigm.mk p.fName p.fDimensions ss) stem inherent cell = some (underS p.fDimensions ss stem inherent cell) := fun ss h1 h2 h3 => paradigm_Underlying_eq hM hM2 (p := api_Paradigm.mk p.fName p.fDimensions ss) hp.dims h1 h2 (by omega) hir h3
          have hsame : underS p.fDimensions (p.fSlots.set l (S ++ [api_Affix.mk [] [] more.fSuffix, more])) stem inherent cell = underS p.fDimensions (p.fSlots.set l (S ++ [api_Affix.mk [] [] more.fSuffix])) stem inherent cell := by
            unfold underS
            cases mergeS p.fDimensions cell inherent with
            | none => rfl
            | some m => simp only [formS_set m (pick_more m S more.fSuffix more)]
          rw [hund _ hQo w3 (by omega), hund _ hRo hRa (by omega), paradigm_Merge_eq hM (p := api_Paradigm.mk p.fName p.fDimensions (p.fSlots.set l (S ++ [api_Affix.mk [] [] more.fSuffix, more]))) hp.dims (by omega) hir, hsame]
          simp only [Option.bind_some, Bool.not_true, cond_false]
          simp only [decide_true, cond_true]
          cases hm : mergeS p.fDimensions cell inherent with
          | none => rfl
          | some m =>
            have hml := (merge_asc hm).2
            simp only [pairOf, Option.getD_some, Option.isSome_some, Bool.not_true, cond_false]
            rw [paradigm_Chosen_eq hM (p := api_Paradigm.mk p.fName p.fDimensions (p.fSlots.set l (S ++ [api_Affix.mk [] [] more.fSuffix, more]))) hQo (by omega)]
            simp only [Option.bind_some]
            rw [cpos2 (by omega) (by omega), chosen_same w3 (merge_asc hm).1, hQg]
            have hle := fst_more (fun x : api_Affix => subs x.fWhen m) S (api_Affix.mk [] [] more.fSuffix) more rfl
            have hch : chosenS subs (p.fSlots.set l (S ++ [api_Affix.mk [] [] more.fSuffix, more])) l m = fstIdx (fun x : api_Affix => subs x.fWhen m) (S ++ [api_Affix.mk [] [] more.fSuffix, more]) 0 := by
              unfold chosenS
              rw [cpos2 (by omega) (by omega), Int.toNat_natCast, hQg]
            rw [hch]
            have hlen : ((S ++ [api_Affix.mk [] [] more.fSuffix, more]).length : Int) = S.length + 2 := by simp
            rw [hlen, wrap64 (by omega) (by omega), decide_eq_false (by omega)]
            rfl
    · have e : cellS p.fDimensions n = ([], false) := by unfold cellS; rw [cneg2 h0]
      rw [e]
      rfl

theorem pentaglotlaw10_ParadigmShadows_law (x : Tup E.Γ pentaglotlaw10_ParadigmShadows.ps) (_ : okTup (okD E 8) pentaglotlaw10_ParadigmShadows.ps x) (h : szTup (szD E 8) pentaglotlaw10_ParadigmShadows.ps x ≤ 1048576) : (pentaglotlaw10_ParadigmShadows.sig 2097152).fn x = some true := by
  obtain ⟨a, p, n, more, stem, inherent⟩ := x
  exact pentaglotlaw10_ParadigmShadows_plain a p n more stem inherent h

end Go.Ai.Par
noncomputable section
namespace Go.Proofs.Ytejbamobkncfhaa
open Go Go.Ai Go.Ai.Par Go.RowKit Go.ChangeShapes
set_option maxRecDepth 100000
namespace ParadigmShadows

theorem bulkOk {H : Type} : BulkOk (H := H) Rows.uptoBulk Rows.uptoBulkAll where
  str := fun l => by simp [Rows.uptoBulk]
  lit := fun l => by cases l <;> simp [Rows.uptoBulk]
  nil := by simp [Rows.uptoBulk]
  slice := fun xs ys => by simp only [Rows.uptoBulk]; omega
  agg := fun xs => by simp only [Rows.uptoBulk]; omega
  cons := fun x xs => by simp only [Rows.uptoBulkAll]; omega

theorem bound {H : Type} {l : List (DataW H)} (hk : Rows.uptoSmall H l = true) : Rows.uptoBulkAll l ≤ 1048576 := of_decide_eq_true hk
def reads : List Nat := [2, 3, 9, 21, 113, 22, 23, 24, 26, 29, 31, 57, 58, 67, 69, 71, 115]
theorem own : ownKnob Try.prog.godebug = none := by kernel_rfl
theorem laid : laidOutB Try.prog = true := by kernel_rfl

theorem lifted (os : Os) (started : os.Started) (H : Type) (enc : TypeId × Value → H) (F : Stop.Interp) :
    ReturnsInHanded {} Try.checked os 11 .any ((Rows.OpenSpec.upto Rows.paradigmShadowsSpec).pre6 enc Try.prog Try.f11 Rows.paradigmShadowsUptoRow.domain false) (((Rows.OpenSpec.upto Rows.paradigmShadowsSpec).at F).post enc Try.prog Try.f11 false true false false) := by
  refine returnsInHanded_of_cond (C := Try.checked) (s := Rows.OpenSpec.upto Rows.paradigmShadowsSpec) (k := Rows.uptoSmall) rfl own started (by kernel_rfl) Try.func11
    (OpenSpec.witness (enc := enc) (C := Try.checked) (s := Rows.OpenSpec.upto Rows.paradigmShadowsSpec) (k := Rows.uptoSmall) rfl false ⟨#[], #[.slice none 0 0, .agg #[.string ⟨#[]⟩, .slice none 0 0, .slice none 0 0], .int .i64 0, .agg #[.slice none 0 0, .string ⟨#[]⟩, .string ⟨#[]⟩], .string ⟨#[]⟩, .slice none 0 0], []⟩ 8 (by kernel_rfl) (by kernel_rfl) (by kernel_rfl)
      (x := ([.nil, .agg [.lit (.string []), .nil, .nil], .lit (.int .i64 0), .agg [.nil, .lit (.string []), .lit (.string [])], .lit (.string []), .nil], [], [])) (by kernel_rfl) rfl (by kernel_rfl)) ?_
  intro W base args ds gs before hval hW _ hk _
  exact law_calls (COk_Try (sig := fun _ => none) (it := fun _ => none) (nt := 0) (r1 := []) (r2 := [])) (S := reads) (by kernel_rfl) (szD_ok 8) (okD_ok 8) laid (ps := pentaglotlaw10_ParadigmShadows.ps) (by kernel_rfl) (by kernel_rfl) (tb := 4) rfl (by kernel_rfl) (F := (pentaglotlaw10_ParadigmShadows.sig 2097152).fn)
    (pentaglotlaw10_ParadigmShadows.says 2097152).2 pentaglotlaw10_ParadigmShadows_law rfl (fun ds h => match ds, h with | [_, _, _, _, _, _], _ => rfl) hval hW bulkOk (bound hk)

theorem said : Rows.ParadigmShadowsUptoSaid :=
  OpenClaim.holds_of_cond 11 Try.f11 rfl rfl rfl rfl rfl rfl rfl ⟨rfl, rfl, rfl, rfl, rfl⟩ rfl rfl rfl rfl rfl (by kernel_rfl) Try.func11 (by kernel_rfl)
    (of_decide_eq_true (by kernel_rfl)) (by unfold Func.isWrapper; first | (rw [if_pos (by decide +kernel)]; kernel_rfl) | (rw [if_neg (by decide +kernel)]; exact ⟨rfl, rfl⟩))
    (fun os started H enc _ F => lifted os started H enc F)

end ParadigmShadows
end Go.Proofs.Ytejbamobkncfhaa
end
